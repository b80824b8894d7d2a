/- The document's assembler: operands against a pattern. (Numbers of seat r2.D.) -/
import Derived.Test.YtjlbpkokdlggiaaDoorRefE
namespace Go.Proofs.YtjlbpkokdlggiaaDoor
open Go.Ab Go.RowKit
set_option linter.unusedSimpArgs false
set_option maxRecDepth 100000
abbrev ArgD := Int × Int × Str
abbrev argV (a : ArgD) : List V := [.int .i64 a.1, .int .i64 a.2.1, .str a.2.2]
def argsV (l : List ArgD) : List (List V) := l.map argV
@[simp] theorem argsV_nil : argsV [] = [] := rfl
theorem argsV_len (l : List ArgD) : (argsV l).length = l.length := by simp [argsV]
theorem argsV_one (l : List ArgD) (r n : Int) (t : Str) : argsV l ++ [[.int .i64 r, .int .i64 n, .str t]] = argsV (l ++ [(r, n, t)]) := by simp [argsV]
def matF : List Tok → Str → Option (List ArgD)
  | [], [] => some []
  | t :: l, c :: p =>
    if c = 114 then (if t.1 = 1 then (match regN t.2.1 with
      | some q => (matF l p).map (((q : Int), 0, []) :: ·)
      | none => none) else none)
    else if c = 110 ∨ c = 120 then
      (if c = 120 ∧ t.1 = 1 ∧ nameD t.2.1 = true then (matF l p).map ((0, 0, t.2.1) :: ·)
      else if t.1 = 2 ∧ (numX t.2.1).2 = true then (matF l p).map ((0, (numX t.2.1).1, []) :: ·) else none)
    else if t.1 = 3 ∧ t.2.1 = [c] then matF l p else none
  | _, _ => none
theorem matF_len : ∀ (l : List Tok) (p : Str), l.length ≠ p.length → matF l p = none
  | [], [], h => absurd rfl h
  | [], _ :: _, _ => rfl
  | _ :: _, [], _ => rfl
  | t :: l, c :: p, h => by
    have e := matF_len l p (by simpa using h)
    simp only [matF, e, Option.map_none]
    (repeat' split) <;> rfl
def matV (l : List Tok) (p : Str) : V := match matF l p with
  | some a => .tup [.sl 3 false (argsV a), .bool true]
  | none => .tup [.sl 3 true [], .bool false]
theorem map_appA {l : List ArgD} {t : ArgD} {o : Option (List ArgD)} : (o.map (t :: ·)).map (l ++ ·) = o.map ((l ++ [t]) ++ ·) := by
  cases o <;> simp
theorem toksV_at (l : List Tok) (i : Nat) (h : i < l.length) : (toksV l)[i]? = some (tokV l[i]) := by simp [toksV, h]
set_option maxHeartbeats 32000000 in
theorem matched_ok (l : List Tok) (p : Str) (hl : l.length ≤ 1000000) (ht : ∀ t ∈ l, t.2.1.length ≤ 1000000) : Meets Tryd.prog 104 [.sl 3 false (toksV l), .str p] (matV l p) := by
  have htl := toksV_len l
  refine Meets.of Tryd.func104 rfl (by kernel_rfl) rfl ?_
  simp only [Tryd.ntmps104, St.start, argT]
  refine au  ?_
  repeat intro K hK
  refine wr ?_
  by_cases hlp : l.length = p.length
  · have hlp' : ((l.length : Int) = (p.length : Int)) := by omega
    refine awp_cond rfl (fun h => by simp [htl, hlp'] at h) (fun _ => ?_)
    refine au  ?_
    repeat intro K hK
    refine wr ?_
    refine awp_nilOwn 6 125 3 (by decide) rfl ?_
    obtain ⟨I, hI⟩ : ∃ I : Nat → St → Prop, I = (fun kk ss => ∃ (i : Nat) (a : List ArgD), i ≤ l.length ∧ kk = l.length - i ∧ (matF l p = (matF (l.drop i) (p.drop i)).map (a ++ ·) ∧ a.length ≤ i) ∧ ss = ⟨106, [(7, .int .i64 i), (6, .own 0), (0, .sl 3 false (toksV l)), (1, .str p)], 1, [(0, some ⟨125, 3, false, false, argsV a⟩)], 0⟩) := ⟨_, rfl⟩
    refine awp_loopA I (k0 := l.length) (st0 := (fun (i : Nat) (a : List ArgD) => (⟨106, [(7, .int .i64 i), (6, .own 0), (0, .sl 3 false (toksV l)), (1, .str p)], 1, [(0, some ⟨125, 3, false, false, argsV a⟩)], 0⟩ : St)) 0 []) (ρ0 := id) ⟨rfl, by simp [leT, ltV, lt1, ren, ren1], by simp [leO, lt1, ren1], by simp, by simp⟩ (by rw [hI]; exact ⟨0, [], by simp, by simp, ⟨by simp, Nat.le_refl _⟩, rfl⟩) ?_
    intro kk ss hIk _
    rw [hI] at hIk
    obtain ⟨i, a, hi, rfl, hx, rfl⟩ := hIk
    obtain ⟨hx, hal⟩ := hx
    have hav := argsV_len a
    have hmx : (argsV a).length + 1 ≤ maxLen := by rw [hav]; simp [maxLen]; omega
    have hm3 : (a.length + 1) * 32 ≤ 140737488355328 := by omega
    have hw : IntKind.i64.wrap ((i : Int) + 1) = (i : Int) + 1 := wrap_i64_in (by omega) (by omega)
    by_cases hi' : i < l.length
    · obtain ⟨z, hz⟩ : ∃ z, z = l[i] := ⟨_, rfl⟩
      have hzm : z.2.1.length ≤ 1000000 := ht z (by rw [hz]; exact List.getElem_mem hi')
      have hget : (toksV l)[i]? = some (tokV z) := by rw [hz]; exact toksV_at _ i hi'
      have hdl : l.drop i = z :: l.drop (i + 1) := by rw [List.drop_eq_getElem_cons hi', hz]
      have hip : i < p.length := by omega
      obtain ⟨c, hc⟩ : ∃ c, c = p.getD i 0 := ⟨_, rfl⟩
      have hcc : p[i]?.getD 0 = c := by rw [hc, List.getD_eq_getElem?_getD]
      have hdp : p.drop i = c :: p.drop (i + 1) := by rw [List.drop_eq_getElem_cons hip, hc, List.getD_eq_getElem?_getD, List.getElem?_eq_getElem hip]; rfl
      rw [hdl, hdp, matF] at hx
      obtain ⟨zk, zt, zg⟩ := z
      simp only at hx hget hzm
      refine au1 @htl ?_
      repeat intro K hK
      refine wr ?_
      refine awp_cond rfl (fun _ => ?_) (fun h => by simp [hi'] at h)
      refine au3 @hget @hcc @htl ?_
      repeat intro K hK
      refine wr ?_
      by_cases h1 : c = 114
      · subst h1
        rw [if_pos rfl] at hx
        refine awp_cond rfl (fun _ => ?_) (fun h => by simp at h)
        refine au  ?_
        repeat intro K hK
        refine wr ?_
        refine ca (regOf_ok zt)  ?_
        refine au  ?_
        repeat intro K hK
        refine wr ?_
        by_cases hk1 : zk = 1
        · subst hk1
          rw [if_pos rfl] at hx
          cases hr : regN zt with
          | none =>
            simp only [hr] at hx
            have hv : matV l p = .tup [.sl 3 true [], .bool false] := by unfold matV; rw [hx]; rfl
            refine awp_cond rfl (fun _ => ?_) (fun h => by simp at h)
            refine au  ?_
            repeat intro K hK
            refine wr ?_
            refine awp_ret ?_
            simp [hv]
          | some q =>
            simp only [hr] at hx
            refine awp_cond rfl (fun h => by simp at h) (fun _ => ?_)
            refine au  ?_
            repeat intro K hK
            refine wr ?_
            rw [map_appA] at hx
            have hap := argsV_one a ((q : Int)) (0) ([])
            refine au5 @hav @hmx @hm3 @hap @hw ?_
            repeat intro K hK
            refine wr ?_
            refine again_of (l.length - (i + 1)) ((fun (i : Nat) (a : List ArgD) => (⟨106, [(7, .int .i64 i), (6, .own 0), (0, .sl 3 false (toksV l)), (1, .str p)], 1, [(0, some ⟨125, 3, false, false, argsV a⟩)], 0⟩ : St)) (i + 1) (a ++ [((q : Int), 0, [])])) (fun x => if x = 0 then 5 else x) (by omega) (by rw [hI]; exact ⟨i + 1, (a ++ [((q : Int), 0, [])]), by omega, rfl, ⟨hx, by simp; omega⟩, rfl⟩) ⟨rfl, ?_, ?_, ?_, by simp⟩
            · simp [leT, ltV, lt1, ren, ren1, wrap_i64_in (n := (i : Int) + 1) (by omega) (by omega), hap, hw]
            · simp [leO, lt1, ren1, hap, hw]
            · (simp; try omega)
        · rw [if_neg hk1] at hx
          have hv : matV l p = .tup [.sl 3 true [], .bool false] := by unfold matV; rw [hx]; rfl
          refine awp_cond rfl (fun _ => ?_) (fun h => by simp [hk1] at h)
          refine au  ?_
          repeat intro K hK
          refine wr ?_
          refine awp_ret ?_
          simp [hv]
      · rw [if_neg h1] at hx
        have h1' : ¬ ((c.toNat : Int) = 114) := fun e => h1 (UInt8.toNat_inj.1 (by simp; omega))
        refine awp_cond rfl (fun h => by simp [h1'] at h) (fun _ => ?_)
        refine au  ?_
        repeat intro K hK
        refine wr ?_
        by_cases h2 : c = 110 ∨ c = 120
        · rw [if_pos h2] at hx
          by_cases h3 : c = 110
          · rw [if_neg (fun e => by have := e.1; rw [h3] at this; revert this; decide)] at hx
            have hc1 : (c.toNat : Int) = 110 := by rw [h3]; rfl
            have hc2 : ¬ (c.toNat : Int) = 120 := by omega
            refine awp_cond rfl (fun _ => ?_) (fun h => by simp [hc1] at h)
            refine au  ?_
            repeat intro K hK
            refine wr ?_
            refine awp_cond rfl (fun _ => ?_) (fun h => by simp [hc1] at h)
            refine au  ?_
            repeat intro K hK
            refine wr ?_
            first | refine gcall_c (name_ok zt) rfl (fun hgd => ?_) (by simp [obsL]) ?_ | refine gcallE_c (name_ok zt) rfl (by simp) (fun hgd => ?_) (by simp [obsL]) ?_
            all_goals simp
            all_goals (try (first | exact hgd | (simp at hgd; first | done | assumption | grind)))
            refine au  ?_
            repeat intro K hK
            refine wr ?_
            refine awp_cond rfl (fun h => by simp [hcc, hc2] at h) (fun _ => ?_)
            refine au  ?_
            repeat intro K hK
            refine wr ?_
            refine ca (number_ok zt hzm)  ?_
            refine au  ?_
            repeat intro K hK
            refine wr ?_
            by_cases h7 : zk = 2 ∧ (numX zt).2 = true
            · rw [if_pos h7] at hx
              refine awp_cond rfl (fun h => by simp [h7] at h) (fun _ => ?_)
              refine au  ?_
              repeat intro K hK
              refine wr ?_
              rw [map_appA] at hx
              have hap := argsV_one a (0) ((numX zt).1) ([])
              refine au5 @hav @hmx @hm3 @hap @hw ?_
              repeat intro K hK
              refine wr ?_
              refine again_of (l.length - (i + 1)) ((fun (i : Nat) (a : List ArgD) => (⟨106, [(7, .int .i64 i), (6, .own 0), (0, .sl 3 false (toksV l)), (1, .str p)], 1, [(0, some ⟨125, 3, false, false, argsV a⟩)], 0⟩ : St)) (i + 1) (a ++ [(0, (numX zt).1, [])])) (fun x => if x = 0 then 6 else x) (by omega) (by rw [hI]; exact ⟨i + 1, (a ++ [(0, (numX zt).1, [])]), by omega, rfl, ⟨hx, by simp; omega⟩, rfl⟩) ⟨rfl, ?_, ?_, ?_, by simp⟩
              · simp [leT, ltV, lt1, ren, ren1, wrap_i64_in (n := (i : Int) + 1) (by omega) (by omega), hap, hw]
              · simp [leO, lt1, ren1, hap, hw]
              · (simp; try omega)
            · rw [if_neg h7] at hx
              have hv : matV l p = .tup [.sl 3 true [], .bool false] := by unfold matV; rw [hx]; rfl
              refine awp_cond rfl (fun _ => ?_) (fun h => absurd (by simpa using h) h7)
              refine au  ?_
              repeat intro K hK
              refine wr ?_
              refine awp_ret ?_
              simp [hv]
          · have h4 : c = 120 := h2.resolve_left h3
            have hc1 : (c.toNat : Int) = 120 := by rw [h4]; rfl
            refine awp_cond rfl (fun h => by simp [hc1] at h) (fun _ => ?_)
            refine au  ?_
            repeat intro K hK
            refine wr ?_
            refine awp_cond rfl (fun _ => ?_) (fun h => by simp [hc1] at h)
            refine au  ?_
            repeat intro K hK
            refine wr ?_
            first | refine gcall_c (name_ok zt) rfl (fun hgd => ?_) (by simp [obsL]) ?_ | refine gcallE_c (name_ok zt) rfl (by simp) (fun hgd => ?_) (by simp [obsL]) ?_
            all_goals simp
            all_goals (try (first | exact hgd | (simp at hgd; first | done | assumption | grind)))
            refine au  ?_
            repeat intro K hK
            refine wr ?_
            by_cases h5 : zk = 1 ∧ nameD zt = true
            · rw [if_pos ⟨h4, h5⟩] at hx
              refine awp_cond rfl (fun _ => ?_) (fun h => by simp [hcc, hc1, h5] at h)
              refine au  ?_
              repeat intro K hK
              refine wr ?_
              rw [map_appA] at hx
              have hap := argsV_one a (0) (0) (zt)
              refine au5 @hav @hmx @hm3 @hap @hw ?_
              repeat intro K hK
              refine wr ?_
              refine again_of (l.length - (i + 1)) ((fun (i : Nat) (a : List ArgD) => (⟨106, [(7, .int .i64 i), (6, .own 0), (0, .sl 3 false (toksV l)), (1, .str p)], 1, [(0, some ⟨125, 3, false, false, argsV a⟩)], 0⟩ : St)) (i + 1) (a ++ [(0, 0, zt)])) (fun x => if x = 0 then 4 else x) (by omega) (by rw [hI]; exact ⟨i + 1, (a ++ [(0, 0, zt)]), by omega, rfl, ⟨hx, by simp; omega⟩, rfl⟩) ⟨rfl, ?_, ?_, ?_, by simp⟩
              · simp [leT, ltV, lt1, ren, ren1, wrap_i64_in (n := (i : Int) + 1) (by omega) (by omega), hap, hw]
              · simp [leO, lt1, ren1, hap, hw]
              · (simp; try omega)
            · rw [if_neg (fun e => h5 e.2)] at hx
              refine awp_cond rfl (fun h => absurd (by simpa [hcc, hc1] using h) h5) (fun _ => ?_)
              refine au  ?_
              repeat intro K hK
              refine wr ?_
              refine ca (number_ok zt hzm)  ?_
              refine au  ?_
              repeat intro K hK
              refine wr ?_
              by_cases h7 : zk = 2 ∧ (numX zt).2 = true
              · rw [if_pos h7] at hx
                refine awp_cond rfl (fun h => by simp [h7] at h) (fun _ => ?_)
                refine au  ?_
                repeat intro K hK
                refine wr ?_
                rw [map_appA] at hx
                have hap := argsV_one a (0) ((numX zt).1) ([])
                refine au5 @hav @hmx @hm3 @hap @hw ?_
                repeat intro K hK
                refine wr ?_
                refine again_of (l.length - (i + 1)) ((fun (i : Nat) (a : List ArgD) => (⟨106, [(7, .int .i64 i), (6, .own 0), (0, .sl 3 false (toksV l)), (1, .str p)], 1, [(0, some ⟨125, 3, false, false, argsV a⟩)], 0⟩ : St)) (i + 1) (a ++ [(0, (numX zt).1, [])])) (fun x => if x = 0 then 6 else x) (by omega) (by rw [hI]; exact ⟨i + 1, (a ++ [(0, (numX zt).1, [])]), by omega, rfl, ⟨hx, by simp; omega⟩, rfl⟩) ⟨rfl, ?_, ?_, ?_, by simp⟩
                · simp [leT, ltV, lt1, ren, ren1, wrap_i64_in (n := (i : Int) + 1) (by omega) (by omega), hap, hw]
                · simp [leO, lt1, ren1, hap, hw]
                · (simp; try omega)
              · rw [if_neg h7] at hx
                have hv : matV l p = .tup [.sl 3 true [], .bool false] := by unfold matV; rw [hx]; rfl
                refine awp_cond rfl (fun _ => ?_) (fun h => absurd (by simpa using h) h7)
                refine au  ?_
                repeat intro K hK
                refine wr ?_
                refine awp_ret ?_
                simp [hv]
        · rw [if_neg h2] at hx
          have hpc : (p.take (i + 1)).drop i = [c] := by rw [List.drop_take, show i + 1 - i = 1 by omega, hdp]; rfl
          have h3' : ¬ ((c.toNat : Int) = 110) := fun e => h2 (.inl (UInt8.toNat_inj.1 (by simp; omega)))
          have h4' : ¬ ((c.toNat : Int) = 120) := fun e => h2 (.inr (UInt8.toNat_inj.1 (by simp; omega)))
          refine awp_cond rfl (fun h => by simp [h3'] at h) (fun _ => ?_)
          refine au  ?_
          repeat intro K hK
          refine wr ?_
          refine awp_cond rfl (fun h => by simp [h4'] at h) (fun _ => ?_)
          refine au  ?_
          repeat intro K hK
          refine wr ?_
          refine awp_planI ([0, 1, 2, 3, 4, 5, 6, 7, 8, 9, 10, 11, 12] : List Nat) ([[], [0], [0, 1], [0, 1, 2], [0, 1, 2, 3], [0, 1, 2, 3, 4], [0, 1, 2, 3], [0, 1, 2, 3], [0, 1, 2, 3], [0, 1, 2, 3, 8], [0, 1, 2, 3, 6, 7, 8, 9], [0, 1, 2, 3, 4, 5, 6, 7, 8, 9, 10], [0, 1, 2, 3, 4, 5, 6, 7, 8, 9, 10, 11]] : List (List Nat)) ([(1, ([], [])), (1, ([], [])), (1, ([], [])), (1, ([], [])), (7, ([[], [0], [], [], [], [4], [2, 3, 4, 5]], [])), (1, ([], [])), (1, ([], []))] : List (Nat × List (List Nat) × List (Nat × Nat))) (by kernel_rfl) (by kernel_rfl) (by kernel_rfl) ?_
          refine af1 @hw ?_
          repeat intro K hK
          refine wr ?_
          simp only [hpc]
          by_cases h6 : zk = 3 ∧ zt = [c]
          · rw [if_pos h6] at hx
            refine awp_cond rfl (fun h => by simp [h6] at h) (fun _ => ?_)
            refine af  ?_
            repeat intro K hK
            refine wr ?_
            refine again_of (l.length - (i + 1)) ((fun (i : Nat) (a : List ArgD) => (⟨106, [(7, .int .i64 i), (6, .own 0), (0, .sl 3 false (toksV l)), (1, .str p)], 1, [(0, some ⟨125, 3, false, false, argsV a⟩)], 0⟩ : St)) (i + 1) a) (id) (by omega) (by rw [hI]; exact ⟨i + 1, a, by omega, rfl, ⟨hx, by omega⟩, rfl⟩) ⟨rfl, ?_, ?_, ?_, by simp⟩
            · simp [leT, ltV, lt1, ren, ren1, wrap_i64_in (n := (i : Int) + 1) (by omega) (by omega), hw]
            · simp [leO, lt1, ren1, hw]
            · (simp; try omega)
          · rw [if_neg h6] at hx
            have hv : matV l p = .tup [.sl 3 true [], .bool false] := by unfold matV; rw [hx]; rfl
            refine awp_cond rfl (fun _ => ?_) (fun h => absurd (by simpa using h) h6)
            refine af  ?_
            repeat intro K hK
            refine wr ?_
            refine awp_ret ?_
            simp [hv]
    · have : i = l.length := by omega
      subst this
      rw [List.drop_length, hlp, List.drop_length, matF] at hx
      have hv : matV l p = .tup [.sl 3 false (argsV a), .bool true] := by unfold matV; rw [hx]; simp
      refine af1 @htl ?_
      repeat intro K hK
      refine wr ?_
      refine awp_cond rfl (fun h => by simp at h) (fun _ => ?_)
      refine af  ?_
      repeat intro K hK
      refine wr ?_
      refine awp_fzA ?_
      refine awp_ret ?_
      simp [hv]
  · have hlp' : ¬ ((l.length : Int) = (p.length : Int)) := by omega
    have hv : matV l p = .tup [.sl 3 true [], .bool false] := by unfold matV; rw [matF_len l p hlp]
    refine awp_cond rfl (fun _ => ?_) (fun h => by simp [htl, hlp'] at h)
    refine af  ?_
    repeat intro K hK
    refine wr ?_
    refine awp_ret ?_
    simp [hv]
end Go.Proofs.YtjlbpkokdlggiaaDoor
