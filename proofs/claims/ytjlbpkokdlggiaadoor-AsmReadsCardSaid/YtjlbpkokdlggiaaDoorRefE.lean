/- The document's assembler: the tokens of a line. (Numbers of seat r2.D.) -/
import Derived.Test.YtjlbpkokdlggiaaDoorRefD
namespace Go.Proofs.YtjlbpkokdlggiaaDoor
open Go.Ab Go.RowKit
set_option linter.unusedSimpArgs false
set_option maxRecDepth 100000
abbrev Tok := Int × Str × Bool
def wordC (c : UInt8) : Bool := letB c || digB c || decide (c.toNat = 95)
def signC (c : UInt8) : Bool := decide (c.toNat = 44) || decide (c.toNat = 58) || decide (c.toNat = 40) || decide (c.toNat = 41) || decide (c.toNat = 46)
def tokR (g : Bool) : Str → Option (List Tok)
  | [] => some []
  | c :: s =>
    if c.toNat = 32 then tokR true s
    else if letB c = true then (tokR false (s.dropWhile wordC)).map ((1, c :: s.takeWhile wordC, g) :: ·)
    else if digB c = true ∨ c.toNat = 45 then (tokR false (s.dropWhile wordC)).map ((2, c :: s.takeWhile wordC, g) :: ·)
    else if signC c = true then (tokR false s).map ((3, [c], g) :: ·)
    else none
termination_by s => s.length
decreasing_by
  all_goals simp
  all_goals (have := (List.dropWhile_suffix (l := s) wordC).length_le; omega)
theorem tok_nil (g : Bool) : tokR g [] = some [] := by rw [tokR]
theorem tok_cons (g : Bool) (c : UInt8) (s : Str) : tokR g (c :: s) = if c.toNat = 32 then tokR true s
    else if letB c = true then (tokR false (s.dropWhile wordC)).map ((1, c :: s.takeWhile wordC, g) :: ·)
    else if digB c = true ∨ c.toNat = 45 then (tokR false (s.dropWhile wordC)).map ((2, c :: s.takeWhile wordC, g) :: ·)
    else if signC c = true then (tokR false s).map ((3, [c], g) :: ·)
    else none := by rw [tokR]
abbrev tokV (t : Tok) : List V := [.int .i64 t.1, .str t.2.1, .bool t.2.2]
def toksV (l : List Tok) : List (List V) := l.map tokV
@[simp] theorem toksV_nil : toksV [] = [] := rfl
theorem toksV_len (l : List Tok) : (toksV l).length = l.length := by simp [toksV]
theorem toksV_one (l : List Tok) (k : Int) (t : Str) (g : Bool) : toksV l ++ [[.int .i64 k, .str t, .bool g]] = toksV (l ++ [(k, t, g)]) := by simp [toksV]
theorem tw_facts (P : UInt8 → Bool) : ∀ x : Str, x.take (x.takeWhile P).length = x.takeWhile P ∧ x.drop (x.takeWhile P).length = x.dropWhile P ∧ (x.takeWhile P).length ≤ x.length ∧ (∀ j, j < (x.takeWhile P).length → P (x.getD j 0) = true) ∧ ((x.takeWhile P).length < x.length → P (x.getD (x.takeWhile P).length 0) = false)
  | [] => by simp
  | c :: x => by
    obtain ⟨h1, h2, h3, h4, h5⟩ := tw_facts P x
    by_cases hc : P c = true
    · simp only [List.takeWhile_cons, List.dropWhile_cons, hc, if_true, List.length_cons, List.take_succ_cons, List.drop_succ_cons, h1, h2, true_and]
      refine ⟨by omega, fun j hj => ?_, fun h => ?_⟩
      · cases j with
        | zero => simpa using hc
        | succ j => simpa using h4 j (by omega)
      · simpa using h5 (by omega)
    · simp [List.takeWhile_cons, List.dropWhile_cons, hc]
def tokensV (s : Str) : V := match tokR true s with
  | some l => .tup [.sl 3 false (toksV l), .bool true]
  | none => .tup [.sl 3 true [], .bool false]
theorem map_app {l : List Tok} {t : Tok} {o : Option (List Tok)} : (o.map (t :: ·)).map (l ++ ·) = o.map ((l ++ [t]) ++ ·) := by
  cases o <;> simp
set_option maxHeartbeats 32000000 in
theorem tokens_ok (s : Str) (hsl : s.length ≤ 1000000) : Meets Tryd.prog 101 [.str s] (tokensV s) := by
  refine Meets.of Tryd.func101 rfl (by kernel_rfl) rfl ?_
  simp only [Tryd.ntmps101, St.start, argT]
  refine au  ?_
  repeat intro K hK
  refine wr ?_
  refine awp_nilOwn 4 169 3 (by decide) rfl ?_
  obtain ⟨I, hI⟩ : ∃ I : Nat → St → Prop, I = (fun kk ss => ∃ (i : Nat) (p : Nat) (g : Bool) (l : List Tok), i ≤ s.length ∧ kk = s.length - i ∧ (i ≤ p ∧ p ≤ s.length ∧ tokR true s = (tokR g (s.drop p)).map (l ++ ·) ∧ l.length ≤ p) ∧ ss = ⟨131, [(6, .int .i64 p), (5, .bool g), (4, .own 0), (0, .str s)], 1, [(0, some ⟨169, 3, false, false, toksV l⟩)], 0⟩) := ⟨_, rfl⟩
  refine awp_loopA I (k0 := s.length) (st0 := (fun (i : Nat) (p : Nat) (g : Bool) (l : List Tok) => (⟨131, [(6, .int .i64 p), (5, .bool g), (4, .own 0), (0, .str s)], 1, [(0, some ⟨169, 3, false, false, toksV l⟩)], 0⟩ : St)) 0 0 true []) (ρ0 := id) ⟨rfl, by simp [leT, ltV, lt1, ren, ren1], by simp [leO, lt1, ren1], by simp, by simp⟩ (by rw [hI]; exact ⟨0, 0, true, [], by simp, by simp, ⟨Nat.le_refl _, Nat.zero_le _, by simp, Nat.le_refl _⟩, rfl⟩) ?_
  intro kk ss hIk _
  rw [hI] at hIk
  obtain ⟨i, p, g, l, hi, rfl, hx, rfl⟩ := hIk
  obtain ⟨hip, hpl, hx, hll⟩ := hx
  have htl := toksV_len l
  have hmx : (toksV l).length + 1 ≤ maxLen := by rw [htl]; simp [maxLen]; omega
  have hm3 : (l.length + 1) * 40 ≤ 140737488355328 := by omega
  have hw : IntKind.i64.wrap ((p : Int) + 1) = (p : Int) + 1 := wrap_i64_in (by omega) (by omega)
  refine au  ?_
  repeat intro K hK
  refine wr ?_
  by_cases hp : p < s.length
  · obtain ⟨c, hc⟩ : ∃ c, c = s.getD p 0 := ⟨_, rfl⟩
    have hcc : s[p]?.getD 0 = c := by rw [hc, List.getD_eq_getElem?_getD]
    have hdr : s.drop p = c :: s.drop (p + 1) := by rw [List.drop_eq_getElem_cons hp, hc, List.getD_eq_getElem?_getD, List.getElem?_eq_getElem hp]; rfl
    rw [hdr, tok_cons] at hx
    refine awp_cond rfl (fun _ => ?_) (fun h => by simp [hp] at h)
    refine au1 @hcc ?_
    repeat intro K hK
    refine wr ?_
    by_cases h32 : c.toNat = 32
    · rw [if_pos h32] at hx
      refine awp_cond rfl (fun _ => ?_) (fun h => by simp [h32] at h)
      refine au1 @hw ?_
      repeat intro K hK
      refine wr ?_
      refine again_of (s.length - (i + 1)) ((fun (i : Nat) (p : Nat) (g : Bool) (l : List Tok) => (⟨131, [(6, .int .i64 p), (5, .bool g), (4, .own 0), (0, .str s)], 1, [(0, some ⟨169, 3, false, false, toksV l⟩)], 0⟩ : St)) (i + 1) (p + 1) true l) (id) (by omega) (by rw [hI]; exact ⟨i + 1, (p + 1), true, l, by omega, rfl, ⟨by omega, by omega, hx, by omega⟩, rfl⟩) ⟨rfl, ?_, ?_, ?_, by simp⟩
      · simp [leT, ltV, lt1, ren, ren1, wrap_i64_in (n := (i : Int) + 1) (by omega) (by omega), hw]
      · simp [leO, lt1, ren1, hw]
      · (simp; try omega)
    · rw [if_neg h32] at hx
      have h32' : ¬ ((c.toNat : Int) = 32) := by omega
      refine awp_cond rfl (fun h => by simp [h32'] at h) (fun _ => ?_)
      refine au  ?_
      repeat intro K hK
      refine wr ?_
      refine ca (letter_ok c)  ?_
      refine au  ?_
      repeat intro K hK
      refine wr ?_
      by_cases hlt1 : letB c = true
      · rw [if_pos hlt1] at hx
        refine awp_cond rfl (fun _ => ?_) (fun h => by simp [hlt1] at h)
        refine au  ?_
        repeat intro K hK
        refine wr ?_
        obtain ⟨h1, h2, h3, h4, h5⟩ := tw_facts wordC (s.drop p)
        obtain ⟨k, hk⟩ : ∃ k, k = ((s.drop p).takeWhile wordC).length := ⟨_, rfl⟩
        rw [← hk] at h1 h2 h3 h4 h5
        have hds : (s.drop p).length = s.length - p := by simp
        have hwc : wordC c = true := by unfold wordC; rw [hlt1]; rfl
        have hk1 : k = ((s.drop (p + 1)).takeWhile wordC).length + 1 := by rw [hk, hdr, List.takeWhile_cons, if_pos hwc, List.length_cons]
        obtain ⟨T, hTd⟩ : ∃ T, T = c :: (s.drop (p + 1)).takeWhile wordC := ⟨_, rfl⟩
        have hT : (s.take (p + k)).drop p = T := by rw [hTd, List.drop_take, show p + k - p = k by omega, h1, hdr, List.takeWhile_cons, if_pos hwc]
        have hD : (s.drop (p + 1)).dropWhile wordC = s.drop (p + k) := by rw [show s.drop (p + k) = (s.drop p).drop k from (List.drop_drop ..).symm, h2, hdr, List.dropWhile_cons, if_pos hwc]
        have hte : ((p : Int) + (k : Int)).toNat = p + k := by omega
        rw [map_app, ← hTd, hD] at hx
        obtain ⟨Ij, hIj⟩ : ∃ I : Nat → St → Prop, I = (fun kk ss => ∃ (j : Nat) , j ≤ k ∧ kk = k - j ∧ (True) ∧ ss = ⟨131, [(6, .int .i64 ((p : Int) + j)), (8, .int .i64 p), (5, .bool g), (4, .own 0), (0, .str s)], 1, [(0, some ⟨169, 3, false, false, toksV l⟩)], 0⟩) := ⟨_, rfl⟩
        refine awp_loopA Ij (k0 := k) (st0 := (fun (j : Nat)  => (⟨131, [(6, .int .i64 ((p : Int) + j)), (8, .int .i64 p), (5, .bool g), (4, .own 0), (0, .str s)], 1, [(0, some ⟨169, 3, false, false, toksV l⟩)], 0⟩ : St)) 0 ) (ρ0 := id) ⟨rfl, by simp [leT, ltV, lt1, ren, ren1], by simp [leO, lt1, ren1], by simp, by simp⟩ (by rw [hIj]; exact ⟨0, by simp, by simp, trivial, rfl⟩) ?_
        intro kk ss hIk _
        rw [hIj] at hIk
        obtain ⟨j, hj, rfl, hxj, rfl⟩ := hIk
        have hwj : IntKind.i64.wrap ((p : Int) + j + 1) = (p : Int) + (j + 1 : Nat) := by rw [wrap_i64_in (by omega) (by omega)]; omega
        obtain ⟨d, hd⟩ : ∃ d, d = s.getD (p + j) 0 := ⟨_, rfl⟩
        have hdd : s[p + j]?.getD 0 = d := by rw [hd, List.getD_eq_getElem?_getD]
        have htj : ((p : Int) + (j : Int)).toNat = p + j := by omega
        have hgd : (s.drop (p)).getD j 0 = d := by rw [hd, List.getD_eq_getElem?_getD, List.getD_eq_getElem?_getD, List.getElem?_drop]
        have hQ : (decide ((p : Int) + (j : Int) < (s.length : Int)) && (letB d || digB d || ((d.toNat : Int) == 95))) = decide (j < k) := by
          have e : (letB d || digB d || ((d.toNat : Int) == 95)) = wordC d := by
            rw [wordC]; congr 1; rw [Bool.eq_iff_iff]; simp; omega
          rw [e, ← hgd]
          by_cases hjk : j < k
          · rw [h4 j hjk, decide_eq_true hjk, decide_eq_true (by omega)]; rfl
          · have hjk' : j = k := by omega
            rw [decide_eq_false hjk]
            by_cases hlt : (p : Int) + (j : Int) < (s.length : Int)
            · rw [hjk', h5 (by simp; omega), Bool.and_false]
            · rw [decide_eq_false hlt, Bool.false_and]
        refine au  ?_
        repeat intro K hK
        refine wr ?_
        first | refine gcall_c (letter_ok d) rfl (fun hgd => ?_) (by simp [obsL]) ?_ | refine gcallE_c (letter_ok d) rfl (by simp) (fun hgd => ?_) (by simp [obsL]) ?_
        all_goals simp
        all_goals (try (first | exact hgd | (simp at hgd; first | done | assumption | grind)))
        refine au  ?_
        repeat intro K hK
        refine wr ?_
        first | refine gcall_c (digit_ok d) rfl (fun hgd => ?_) (by simp [obsL]) ?_ | refine gcallE_c (digit_ok d) rfl (by simp) (fun hgd => ?_) (by simp [obsL]) ?_
        all_goals simp
        all_goals (try (first | exact hgd | (simp at hgd; first | done | assumption | grind)))
        refine au  ?_
        repeat intro K hK
        refine wr ?_
        simp only [htj, hdd, hQ]
        by_cases hjk : j < k
        · refine awp_cond rfl (fun _ => ?_) (fun h => by simp [hjk] at h)
          refine au1 @hwj ?_
          repeat intro K hK
          refine wr ?_
          refine again_of (k - (j + 1)) ((fun (j : Nat)  => (⟨131, [(6, .int .i64 ((p : Int) + j)), (8, .int .i64 p), (5, .bool g), (4, .own 0), (0, .str s)], 1, [(0, some ⟨169, 3, false, false, toksV l⟩)], 0⟩ : St)) (j + 1) ) (id) (by omega) (by rw [hIj]; exact ⟨j + 1, by omega, rfl, trivial, rfl⟩) ⟨rfl, ?_, ?_, ?_, by simp⟩
          · simp [leT, ltV, lt1, ren, ren1, wrap_i64_in (n := (j : Int) + 1) (by omega) (by omega), hwj]
          · simp [leO, lt1, ren1, hwj]
          · (simp; try omega)
        · refine awp_cond rfl (fun h => by simp [hjk] at h) (fun _ => ?_)
          refine au  ?_
          repeat intro K hK
          refine wr ?_
          have hjk' : k = j := by omega
          subst hjk'
          have hap := toksV_one l 1 T g
          refine au6 @hte @hT @htl @hmx @hm3 @hap ?_
          repeat intro K hK
          refine wr ?_
          refine again_of (s.length - (i + 1)) ((fun (i : Nat) (p : Nat) (g : Bool) (l : List Tok) => (⟨131, [(6, .int .i64 p), (5, .bool g), (4, .own 0), (0, .str s)], 1, [(0, some ⟨169, 3, false, false, toksV l⟩)], 0⟩ : St)) (i + 1) (p + k) false (l ++ [(1, T, g)])) (fun x => if x = 0 then 4 else x) (by omega) (by rw [hI]; exact ⟨i + 1, (p + k), false, (l ++ [(1, T, g)]), by omega, rfl, ⟨by omega, by omega, hx, by simp; omega⟩, rfl⟩) ⟨rfl, ?_, ?_, ?_, by simp⟩
          · simp [leT, ltV, lt1, ren, ren1, wrap_i64_in (n := (i : Int) + 1) (by omega) (by omega), hte, hT, hap]
          · simp [leO, lt1, ren1, hte, hT, hap]
          · (simp; try omega)
      · have hlf : letB c = false := by simpa using hlt1
        rw [if_neg hlt1] at hx
        refine awp_cond rfl (fun h => by simp [hlf] at h) (fun _ => ?_)
        refine au  ?_
        repeat intro K hK
        refine wr ?_
        refine ca (digit_ok c)  ?_
        refine au  ?_
        repeat intro K hK
        refine wr ?_
        by_cases hnu : digB c = true ∨ c.toNat = 45
        · rw [if_pos hnu] at hx
          have hnq : (digB c || ((c.toNat : Int) == 45)) = true := by
            rcases hnu with e | e
            · rw [e]; rfl
            · rw [e]; simp
          simp only [hnq]
          refine awp_cond rfl (fun _ => ?_) (fun h => by simp at h)
          refine au1 @hw ?_
          repeat intro K hK
          refine wr ?_
          obtain ⟨h1, h2, h3, h4, h5⟩ := tw_facts wordC (s.drop (p + 1))
          obtain ⟨k, hk⟩ : ∃ k, k = ((s.drop (p + 1)).takeWhile wordC).length := ⟨_, rfl⟩
          rw [← hk] at h1 h2 h3 h4 h5
          have hds : (s.drop (p + 1)).length = s.length - (p + 1) := by simp
          obtain ⟨T, hTd⟩ : ∃ T, T = c :: (s.drop (p + 1)).takeWhile wordC := ⟨_, rfl⟩
          have hT : (s.take (p + 1 + k)).drop p = T := by rw [hTd, List.drop_take, show p + 1 + k - p = k + 1 by omega, hdr, List.take_succ_cons, h1]
          have hD : (s.drop (p + 1)).dropWhile wordC = s.drop (p + 1 + k) := by rw [show s.drop (p + 1 + k) = (s.drop (p + 1)).drop k from (List.drop_drop ..).symm, h2]
          have hte : ((p : Int) + 1 + (k : Int)).toNat = p + 1 + k := by omega
          rw [map_app, ← hTd, hD] at hx
          obtain ⟨Ij, hIj⟩ : ∃ I : Nat → St → Prop, I = (fun kk ss => ∃ (j : Nat) , j ≤ k ∧ kk = k - j ∧ (True) ∧ ss = ⟨131, [(6, .int .i64 ((p : Int) + 1 + j)), (8, .int .i64 p), (5, .bool g), (4, .own 0), (0, .str s)], 1, [(0, some ⟨169, 3, false, false, toksV l⟩)], 0⟩) := ⟨_, rfl⟩
          refine awp_loopA Ij (k0 := k) (st0 := (fun (j : Nat)  => (⟨131, [(6, .int .i64 ((p : Int) + 1 + j)), (8, .int .i64 p), (5, .bool g), (4, .own 0), (0, .str s)], 1, [(0, some ⟨169, 3, false, false, toksV l⟩)], 0⟩ : St)) 0 ) (ρ0 := id) ⟨rfl, by simp [leT, ltV, lt1, ren, ren1], by simp [leO, lt1, ren1], by simp, by simp⟩ (by rw [hIj]; exact ⟨0, by simp, by simp, trivial, rfl⟩) ?_
          intro kk ss hIk _
          rw [hIj] at hIk
          obtain ⟨j, hj, rfl, hxj, rfl⟩ := hIk
          have hwj : IntKind.i64.wrap ((p : Int) + 1 + j + 1) = (p : Int) + 1 + (j + 1 : Nat) := by rw [wrap_i64_in (by omega) (by omega)]; omega
          obtain ⟨d, hd⟩ : ∃ d, d = s.getD (p + 1 + j) 0 := ⟨_, rfl⟩
          have hdd : s[p + 1 + j]?.getD 0 = d := by rw [hd, List.getD_eq_getElem?_getD]
          have htj : ((p : Int) + 1 + (j : Int)).toNat = p + 1 + j := by omega
          have hgd : (s.drop (p + 1)).getD j 0 = d := by rw [hd, List.getD_eq_getElem?_getD, List.getD_eq_getElem?_getD, List.getElem?_drop]
          have hQ : (decide ((p : Int) + 1 + (j : Int) < (s.length : Int)) && (letB d || digB d || ((d.toNat : Int) == 95))) = decide (j < k) := by
            have e : (letB d || digB d || ((d.toNat : Int) == 95)) = wordC d := by
              rw [wordC]; congr 1; rw [Bool.eq_iff_iff]; simp; omega
            rw [e, ← hgd]
            by_cases hjk : j < k
            · rw [h4 j hjk, decide_eq_true hjk, decide_eq_true (by omega)]; rfl
            · have hjk' : j = k := by omega
              rw [decide_eq_false hjk]
              by_cases hlt : (p : Int) + 1 + (j : Int) < (s.length : Int)
              · rw [hjk', h5 (by simp; omega), Bool.and_false]
              · rw [decide_eq_false hlt, Bool.false_and]
          refine au  ?_
          repeat intro K hK
          refine wr ?_
          first | refine gcall_c (letter_ok d) rfl (fun hgd => ?_) (by simp [obsL]) ?_ | refine gcallE_c (letter_ok d) rfl (by simp) (fun hgd => ?_) (by simp [obsL]) ?_
          all_goals simp
          all_goals (try (first | exact hgd | (simp at hgd; first | done | assumption | grind)))
          refine au  ?_
          repeat intro K hK
          refine wr ?_
          first | refine gcall_c (digit_ok d) rfl (fun hgd => ?_) (by simp [obsL]) ?_ | refine gcallE_c (digit_ok d) rfl (by simp) (fun hgd => ?_) (by simp [obsL]) ?_
          all_goals simp
          all_goals (try (first | exact hgd | (simp at hgd; first | done | assumption | grind)))
          refine au  ?_
          repeat intro K hK
          refine wr ?_
          simp only [htj, hdd, hQ]
          by_cases hjk : j < k
          · refine awp_cond rfl (fun _ => ?_) (fun h => by simp [hjk] at h)
            refine au1 @hwj ?_
            repeat intro K hK
            refine wr ?_
            refine again_of (k - (j + 1)) ((fun (j : Nat)  => (⟨131, [(6, .int .i64 ((p : Int) + 1 + j)), (8, .int .i64 p), (5, .bool g), (4, .own 0), (0, .str s)], 1, [(0, some ⟨169, 3, false, false, toksV l⟩)], 0⟩ : St)) (j + 1) ) (id) (by omega) (by rw [hIj]; exact ⟨j + 1, by omega, rfl, trivial, rfl⟩) ⟨rfl, ?_, ?_, ?_, by simp⟩
            · simp [leT, ltV, lt1, ren, ren1, wrap_i64_in (n := (j : Int) + 1) (by omega) (by omega), hwj]
            · simp [leO, lt1, ren1, hwj]
            · (simp; try omega)
          · refine awp_cond rfl (fun h => by simp [hjk] at h) (fun _ => ?_)
            refine au  ?_
            repeat intro K hK
            refine wr ?_
            have hjk' : k = j := by omega
            subst hjk'
            have hap := toksV_one l 2 T g
            refine au6 @hte @hT @htl @hmx @hm3 @hap ?_
            repeat intro K hK
            refine wr ?_
            refine again_of (s.length - (i + 1)) ((fun (i : Nat) (p : Nat) (g : Bool) (l : List Tok) => (⟨131, [(6, .int .i64 p), (5, .bool g), (4, .own 0), (0, .str s)], 1, [(0, some ⟨169, 3, false, false, toksV l⟩)], 0⟩ : St)) (i + 1) (p + 1 + k) false (l ++ [(2, T, g)])) (fun x => if x = 0 then 4 else x) (by omega) (by rw [hI]; exact ⟨i + 1, (p + 1 + k), false, (l ++ [(2, T, g)]), by omega, rfl, ⟨by omega, by omega, hx, by simp; omega⟩, rfl⟩) ⟨rfl, ?_, ?_, ?_, by simp⟩
            · simp [leT, ltV, lt1, ren, ren1, wrap_i64_in (n := (i : Int) + 1) (by omega) (by omega), hte, hT, hap]
            · simp [leO, lt1, ren1, hte, hT, hap]
            · (simp; try omega)
        · rw [if_neg hnu] at hx
          have hnq : (digB c || ((c.toNat : Int) == 45)) = false := by
            have e1 : digB c = false := by simpa using fun e => hnu (.inl e)
            rw [e1]; simp; omega
          simp only [hnq]
          refine awp_cond rfl (fun h => by simp at h) (fun _ => ?_)
          refine au  ?_
          repeat intro K hK
          refine wr ?_
          have hsq : ((c.toNat : Int) == 44 || (c.toNat : Int) == 58 || (c.toNat : Int) == 40 || (c.toNat : Int) == 41 || (c.toNat : Int) == 46) = signC c := by
            rw [Bool.eq_iff_iff]; simp [signC]; omega
          simp only [hsq]
          by_cases hsg : signC c = true
          · rw [if_pos hsg] at hx
            refine awp_cond rfl (fun _ => ?_) (fun h => by simp [hsg] at h)
            refine au1 @hw ?_
            repeat intro K hK
            refine wr ?_
            have hT : (s.take (p + 1)).drop p = [c] := by rw [List.drop_take, show p + 1 - p = 1 by omega, hdr]; rfl
            have hte : ((p : Int) + 1).toNat = p + 1 := by omega
            have hap := toksV_one l 3 [c] g
            rw [map_app] at hx
            refine au6 @hte @hT @htl @hmx @hm3 @hap ?_
            repeat intro K hK
            refine wr ?_
            refine again_of (s.length - (i + 1)) ((fun (i : Nat) (p : Nat) (g : Bool) (l : List Tok) => (⟨131, [(6, .int .i64 p), (5, .bool g), (4, .own 0), (0, .str s)], 1, [(0, some ⟨169, 3, false, false, toksV l⟩)], 0⟩ : St)) (i + 1) (p + 1) false (l ++ [(3, [c], g)])) (fun x => if x = 0 then 4 else x) (by omega) (by rw [hI]; exact ⟨i + 1, (p + 1), false, (l ++ [(3, [c], g)]), by omega, rfl, ⟨by omega, by omega, hx, by simp; omega⟩, rfl⟩) ⟨rfl, ?_, ?_, ?_, by simp⟩
            · simp [leT, ltV, lt1, ren, ren1, wrap_i64_in (n := (i : Int) + 1) (by omega) (by omega), hte, hT, hap]
            · simp [leO, lt1, ren1, hte, hT, hap]
            · (simp; try omega)
          · rw [if_neg hsg] at hx
            have hv : tokensV s = .tup [.sl 3 true [], .bool false] := by unfold tokensV; rw [hx]; rfl
            refine awp_cond rfl (fun h => by simp [hsg] at h) (fun _ => ?_)
            refine au  ?_
            repeat intro K hK
            refine wr ?_
            refine awp_ret ?_
            simp [hv]
  · have hpe : p = s.length := by omega
    subst hpe
    rw [List.drop_length, tok_nil] at hx
    have hv : tokensV s = .tup [.sl 3 false (toksV l), .bool true] := by unfold tokensV; rw [hx]; simp
    refine awp_cond rfl (fun h => by simp at h) (fun _ => ?_)
    refine au  ?_
    repeat intro K hK
    refine wr ?_
    refine awp_fzA ?_
    refine awp_ret ?_
    simp [hv]
end Go.Proofs.YtjlbpkokdlggiaaDoor
