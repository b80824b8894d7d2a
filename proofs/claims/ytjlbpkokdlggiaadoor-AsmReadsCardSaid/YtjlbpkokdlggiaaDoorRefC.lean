/- The document's assembler: addresses of labels, numbers, lines. (Numbers of seat r2.D.) -/
import Derived.Test.YtjlbpkokdlggiaaDoorRefA
namespace Go.Proofs.YtjlbpkokdlggiaaDoor
open Go.Ab Go.RowKit
set_option linter.unusedSimpArgs false
set_option maxRecDepth 100000
theorem symsV_at (l : List (Str × Int)) (i : Nat) (h : i < l.length) : (symsV l)[i]? = some [.str l[i].1, .int .u32 l[i].2] := by simp [symsV, h]
theorem address_ok (l : List (Str × Int)) (s : Str) (hl : l.length ≤ 1000000) : Meets Tryd.prog 65 [.sl 2 false (symsV l), .str s] (.tup [.int .u32 ((findL s l).getD 0), .bool (findL s l).isSome]) := by
  have hll := symsV_len l
  refine Meets.of Tryd.func65 rfl (by kernel_rfl) rfl ?_
  simp only [Tryd.ntmps65, St.start, argT]
  refine au  ?_
  repeat intro K hK
  refine wr ?_
  obtain ⟨I, hI⟩ : ∃ I : Nat → St → Prop, I = (fun kk ss => ∃ (i : Nat) , i ≤ l.length ∧ kk = l.length - i ∧ (findL s l = findL s (l.drop i)) ∧ ss = ⟨25, [(6, .int .i64 i), (0, .sl 2 false (symsV l)), (1, .str s)], 0, [], 0⟩) := ⟨_, rfl⟩
  refine awp_loopA I (k0 := l.length) (st0 := (fun (i : Nat)  => (⟨25, [(6, .int .i64 i), (0, .sl 2 false (symsV l)), (1, .str s)], 0, [], 0⟩ : St)) 0 ) (ρ0 := id) ⟨rfl, by simp [leT, ltV, lt1, ren, ren1], by simp [leO, lt1, ren1], by simp, by simp⟩ (by rw [hI]; exact ⟨0, by simp, by simp, rfl, rfl⟩) ?_
  intro kk ss hIk _
  rw [hI] at hIk
  obtain ⟨i, hi, rfl, hx, rfl⟩ := hIk
  have hw : IntKind.i64.wrap ((i : Int) + 1) = ((i + 1 : Nat) : Int) := by rw [wrap_i64_in (by omega) (by omega)]; omega
  refine au1 @hll ?_
  repeat intro K hK
  refine wr ?_
  by_cases hi' : i < l.length
  · obtain ⟨z, hz⟩ : ∃ z, z = l[i] := ⟨_, rfl⟩
    have hget : (symsV l)[i]? = some [.str z.1, .int .u32 z.2] := by rw [hz]; exact symsV_at _ i hi'
    have hdr : l.drop i = z :: l.drop (i + 1) := by rw [List.drop_eq_getElem_cons hi', hz]
    rw [hdr, findL] at hx
    refine awp_cond rfl (fun _ => ?_) (fun h => by simp [hi'] at h)
    refine au2 @hget @hll ?_
    repeat intro K hK
    refine wr ?_
    by_cases he : z.1 = s
    · rw [if_pos he] at hx
      refine awp_cond rfl (fun _ => ?_) (fun h => by simp [he] at h)
      refine au2 @hget @hll ?_
      repeat intro K hK
      refine wr ?_
      refine awp_ret ?_
      simp [hx]
    · rw [if_neg he] at hx
      refine awp_cond rfl (fun h => by simp [he] at h) (fun _ => ?_)
      refine au  ?_
      repeat intro K hK
      refine wr ?_
      refine again_of (l.length - (i + 1)) ((fun (i : Nat)  => (⟨25, [(6, .int .i64 i), (0, .sl 2 false (symsV l)), (1, .str s)], 0, [], 0⟩ : St)) (i + 1) ) (id) (by omega) (by rw [hI]; exact ⟨i + 1, by omega, rfl, hx, rfl⟩) ⟨rfl, ?_, ?_, ?_, by simp⟩
      · simp [leT, ltV, lt1, ren, ren1, wrap_i64_in (n := (i : Int) + 1) (by omega) (by omega), hw]
      · simp [leO, lt1, ren1, hw]
      · (simp; try omega)
  · have : i = l.length := by omega
    subst this
    rw [List.drop_length] at hx
    refine awp_cond rfl (fun h => by simp at h) (fun _ => ?_)
    refine au  ?_
    repeat intro K hK
    refine wr ?_
    refine awp_ret ?_
    simp [hx, findL]
def numX (s : Str) : Int × Bool :=
  if 2 < s.length ∧ s.getD 0 0 = 48 ∧ s.getD 1 0 = 120 then
    (if 10 < s.length then (0, false) else match digs 16 (s.drop 2) 0 with
      | some n => ((n : Int), true)
      | none => (0, false))
  else if s.length - (if s.getD 0 0 = 45 then 1 else 0) < 1 ∨ 10 < s.length - (if s.getD 0 0 = 45 then 1 else 0) then (0, false)
  else match digs 10 (s.drop (if s.getD 0 0 = 45 then 1 else 0)) 0 with
    | none => (0, false)
    | some n => if s.getD 0 0 = 45 then (-(n : Int), decide (-2147483648 ≤ -(n : Int)) && decide (-(n : Int) ≤ 4294967295)) else ((n : Int), decide (-2147483648 ≤ (n : Int)) && decide ((n : Int) ≤ 4294967295))
abbrev numXV (s : Str) : V := .tup [.int .i64 (numX s).1, .bool (numX s).2]
theorem u8_of {c : UInt8} {k : Nat} (h : c.toNat = k) : c = UInt8.ofNat k := by
  rw [← h]; simp
set_option maxHeartbeats 32000000 in
theorem number_ok (s : Str) (hsl : s.length ≤ 1000000) : Meets Tryd.prog 121 [.str s] (numXV s) := by
  refine Meets.of Tryd.func121 rfl (by kernel_rfl) rfl ?_
  simp only [Tryd.ntmps121, St.start, argT]
  refine au  ?_
  repeat intro K hK
  refine wr ?_
  refine awp_cond rfl (fun hc => ?_) (fun hc => ?_)
  · have h : 2 < s.length ∧ s.getD 0 0 = 48 ∧ s.getD 1 0 = 120 := by
      simp at hc
      rw [List.getD_eq_getElem?_getD, List.getD_eq_getElem?_getD]
      refine ⟨by omega, ?_, ?_⟩ <;> (apply UInt8.toNat_inj.1; simp; omega)
    clear hc
    refine au  ?_
    repeat intro K hK
    refine wr ?_
    refine awp_cond rfl (fun h10 => ?_) (fun h10 => ?_)
    · simp at h10
      have hn : numX s = (0, false) := by unfold numX; rw [if_pos h, if_pos (by omega)]
      refine au  ?_
      repeat intro K hK
      refine wr ?_
      refine awp_ret ?_
      simp [hn]
    · simp at h10
      have hl10 : ¬ 10 < s.length := by omega
      refine au  ?_
      repeat intro K hK
      refine wr ?_
      obtain ⟨I, hI⟩ : ∃ I : Nat → St → Prop, I = (fun kk ss => ∃ (i : Nat) (x : Nat), i ≤ (s.length - 2) ∧ kk = (s.length - 2) - i ∧ (digs 16 (s.drop 2) 0 = digs 16 (s.drop (i + 2)) x ∧ x < 16 ^ i) ∧ ss = ⟨116, [(5, .int .i64 ((i : Int) + 2)), (4, .int .i64 x), (0, .str s)], 0, [], 0⟩) := ⟨_, rfl⟩
      refine awp_loopA I (k0 := (s.length - 2)) (st0 := (fun (i : Nat) (x : Nat) => (⟨116, [(5, .int .i64 ((i : Int) + 2)), (4, .int .i64 x), (0, .str s)], 0, [], 0⟩ : St)) 0 0) (ρ0 := id) ⟨rfl, by simp [leT, ltV, lt1, ren, ren1], by simp [leO, lt1, ren1], by simp, by simp⟩ (by rw [hI]; exact ⟨0, 0, by simp, by simp, ⟨rfl, by simp⟩, rfl⟩) ?_
      intro kk ss hIk _
      rw [hI] at hIk
      obtain ⟨i, x, hi, rfl, hx, rfl⟩ := hIk
      have hw : IntKind.i64.wrap ((i : Int) + 2 + 1) = (i : Int) + 1 + 2 := by rw [wrap_i64_in (by omega) (by omega)]; omega
      refine au  ?_
      repeat intro K hK
      refine wr ?_
      refine awp_cond rfl (fun hi' => ?_) (fun hi' => ?_)
      · simp at hi'
        have hpw : 16 ^ i * 16 ≤ 16 ^ 10 := by rw [← Nat.pow_succ]; exact Nat.pow_le_pow_right (by omega) (by omega)
        have hpc : 16 ^ 10 ≤ 1099511627776 := by decide
        obtain ⟨hx1, hx2⟩ := hx
        have hstep := digs_step (base := 16) (s := s) (i := i + 2) (x := x) (by omega)
        rw [← hx1] at hstep
        rw [List.getD_eq_getElem?_getD] at hstep
        generalize hcd : s[i + 2]?.getD 0 = c at hstep
        have hcu : (c.toNat : Int) ≤ 255 := by have := c.toNat_lt; omega
        have htn : ((i : Int) + 2).toNat = i + 2 := by omega
        have hcp : i + 2 < s.length := by omega
        refine au2 @htn @hcd ?_
        repeat intro K hK
        refine wr ?_
        refine ca (digit_ok c)  ?_
        refine au  ?_
        repeat intro K hK
        refine wr ?_
        cases hdg : digB c with
        | true =>
          have hdr : 48 ≤ c.toNat ∧ c.toNat ≤ 57 := by simpa [digB] using hdg
          have hd : dig 16 c = some (c.toNat - 48) := by unfold dig; rw [if_pos hdr]
          rw [hd] at hstep
          have w1 : IntKind.i64.wrap (IntKind.u8.wrap ((c.toNat : Int) - 48)) = ((c.toNat - 48 : Nat) : Int) := by rw [IntKind.wrap_u8, wrap_i64_in (by omega) (by omega)]; omega
          generalize hdd : c.toNat - 48 = d at hstep w1
          have hd9 : d ≤ 9 := by omega
          have hxn : IntKind.i64.wrap (IntKind.i64.wrap (16 * (x : Int)) + (d : Int)) = ((x * 16 + d : Nat) : Int) := by
            rw [wrap_i64_in (n := 16 * (x : Int)) (by omega) (by omega), wrap_i64_in (by omega) (by omega)]; omega
          refine awp_cond rfl (fun _ => ?_) (fun h => by simp at h)
          refine au5 @htn @hcd @w1 @hxn @hw ?_
          repeat intro K hK
          refine wr ?_
          refine again_of ((s.length - 2) - (i + 1)) ((fun (i : Nat) (x : Nat) => (⟨116, [(5, .int .i64 ((i : Int) + 2)), (4, .int .i64 x), (0, .str s)], 0, [], 0⟩ : St)) (i + 1) (x * 16 + d)) (id) (by omega) (by rw [hI]; exact ⟨i + 1, (x * 16 + d), by omega, rfl, ⟨by rw [show i + 1 + 2 = i + 2 + 1 by omega]; exact hstep, by rw [Nat.pow_succ]; omega⟩, rfl⟩) ⟨rfl, ?_, ?_, ?_, by simp⟩
          · simp [leT, ltV, lt1, ren, ren1, wrap_i64_in (n := (i : Int) + 1) (by omega) (by omega), hw, hxn]
          · simp [leO, lt1, ren1, hw, hxn]
          · (simp; try omega)
        | false =>
          refine awp_cond rfl (fun h => by simp at h) (fun _ => ?_)
          refine au2 @htn @hcd ?_
          repeat intro K hK
          refine wr ?_
          refine awp_cond rfl (fun hl => ?_) (fun hl => ?_)
          · have hdr : 97 ≤ c.toNat ∧ c.toNat ≤ 102 := by simp at hl; omega
            have hd : dig 16 c = some (c.toNat - 87) := by unfold dig; rw [if_neg (by omega), if_pos ⟨rfl, hdr⟩]
            rw [hd] at hstep
            have w1 : IntKind.i64.wrap (IntKind.u8.wrap ((c.toNat : Int) - 97)) = ((c.toNat - 97 : Nat) : Int) := by rw [IntKind.wrap_u8, wrap_i64_in (by omega) (by omega)]; omega
            have hdd : c.toNat - 87 = c.toNat - 97 + 10 := by omega
            rw [hdd] at hstep
            generalize hde : c.toNat - 97 = d at hstep w1
            have hd9 : d ≤ 5 := by omega
            have hxn : IntKind.i64.wrap (IntKind.i64.wrap (IntKind.i64.wrap (16 * (x : Int)) + (d : Int)) + 10) = ((x * 16 + (d + 10) : Nat) : Int) := by
              rw [wrap_i64_in (n := 16 * (x : Int)) (by omega) (by omega), wrap_i64_in (n := 16 * (x : Int) + d) (by omega) (by omega), wrap_i64_in (by omega) (by omega)]; omega
            refine au5 @htn @hcd @w1 @hxn @hw ?_
            repeat intro K hK
            refine wr ?_
            refine again_of ((s.length - 2) - (i + 1)) ((fun (i : Nat) (x : Nat) => (⟨116, [(5, .int .i64 ((i : Int) + 2)), (4, .int .i64 x), (0, .str s)], 0, [], 0⟩ : St)) (i + 1) (x * 16 + (d + 10))) (id) (by omega) (by rw [hI]; exact ⟨i + 1, (x * 16 + (d + 10)), by omega, rfl, ⟨by rw [show i + 1 + 2 = i + 2 + 1 by omega]; exact hstep, by rw [Nat.pow_succ]; omega⟩, rfl⟩) ⟨rfl, ?_, ?_, ?_, by simp⟩
            · simp [leT, ltV, lt1, ren, ren1, wrap_i64_in (n := (i : Int) + 1) (by omega) (by omega), hw, hxn]
            · simp [leO, lt1, ren1, hw, hxn]
            · (simp; try omega)
          · have hdr : ¬ (97 ≤ c.toNat ∧ c.toNat ≤ 102) := by
              intro q
              simp at hl
              omega
            have hdr2 : ¬ (48 ≤ c.toNat ∧ c.toNat ≤ 57) := by
              intro q
              simp [digB, q] at hdg
            have hd : dig 16 c = none := by unfold dig; rw [if_neg hdr2, if_neg (fun q => hdr q.2)]
            rw [hd] at hstep
            have hn : numX s = (0, false) := by unfold numX; rw [if_pos h, if_neg hl10, hstep]
            refine au  ?_
            repeat intro K hK
            refine wr ?_
            refine awp_ret ?_
            simp [hn]
      · simp at hi'
        have hie : i = s.length - 2 := by omega
        obtain ⟨hx1, _⟩ := hx
        rw [hie, show s.length - 2 + 2 = s.length by omega, List.drop_length] at hx1
        have hn : numX s = ((x : Int), true) := by unfold numX; rw [if_pos h, if_neg hl10, hx1]; rfl
        refine au  ?_
        repeat intro K hK
        refine wr ?_
        refine awp_ret ?_
        simp [hn]
  · have h : ¬ (2 < s.length ∧ s.getD 0 0 = 48 ∧ s.getD 1 0 = 120) := by
      rintro ⟨q1, q2, q3⟩
      rw [List.getD_eq_getElem?_getD] at q2 q3
      have q1' : (2 : Int) < (s.length : Int) := by omega
      simp [q1', q2, q3] at hc
    clear hc
    refine au  ?_
    repeat intro K hK
    refine wr ?_
    by_cases hm : s.getD 0 0 = 45
    · have hl0 : 0 < s.length := by
        rcases Nat.eq_zero_or_pos s.length with q | q
        · have : s = [] := List.eq_nil_of_length_eq_zero q
          subst this
          simp at hm
        · exact q
      have hm' := hm
      rw [List.getD_eq_getElem?_getD] at hm'
      have hb : (((s[0]?.getD 0).toNat : Nat) : Int) = 45 := by rw [hm']; rfl
      refine awp_cond rfl (fun _ => ?_) (fun q => by exfalso; simp [hb] at q; rw [q] at hl0; simp at hl0)
      refine au1 @hm' ?_
      repeat intro K hK
      refine wr ?_
      have hsub : IntKind.i64.wrap ((s.length : Int) - 1) = (s.length : Int) - 1 := wrap_i64_in (by omega) (by omega)
      refine au1 @hsub ?_
      repeat intro K hK
      refine wr ?_
      by_cases hlen : s.length - 1 < 1 ∨ 10 < s.length - 1
      · have hn : numX s = (0, false) := by unfold numX; rw [if_neg h, if_pos hm, if_pos hlen]
        refine awp_cond rfl (fun _ => ?_) (fun q => by simp [hsub] at q; omega)
        refine au  ?_
        repeat intro K hK
        refine wr ?_
        refine awp_ret ?_
        simp [hn]
      · refine awp_cond rfl (fun q => by simp [hsub] at q; omega) (fun _ => ?_)
        refine au  ?_
        repeat intro K hK
        refine wr ?_
        obtain ⟨I, hI⟩ : ∃ I : Nat → St → Prop, I = (fun kk ss => ∃ (i : Nat) (x : Nat), i ≤ (s.length - 1) ∧ kk = (s.length - 1) - i ∧ (digs 10 (s.drop 1) 0 = digs 10 (s.drop (i + 1)) x ∧ x < 10 ^ i) ∧ ss = ⟨116, [(8, .int .i64 (((i : Int) + 1))), (7, .int .i64 x), (6, .int .i64 1), (0, .str s)], 0, [], 0⟩) := ⟨_, rfl⟩
        refine awp_loopA I (k0 := (s.length - 1)) (st0 := (fun (i : Nat) (x : Nat) => (⟨116, [(8, .int .i64 (((i : Int) + 1))), (7, .int .i64 x), (6, .int .i64 1), (0, .str s)], 0, [], 0⟩ : St)) 0 0) (ρ0 := id) ⟨rfl, by simp [leT, ltV, lt1, ren, ren1], by simp [leO, lt1, ren1], by simp, by simp⟩ (by rw [hI]; exact ⟨0, 0, by simp, by simp, ⟨by simp, by simp⟩, rfl⟩) ?_
        intro kk ss hIk _
        rw [hI] at hIk
        obtain ⟨i, x, hi, rfl, hx, rfl⟩ := hIk
        have hw : IntKind.i64.wrap (((i : Int) + 1) + 1) = (i : Int) + 1 + 1 := wrap_i64_in (by omega) (by omega)
        refine au  ?_
        repeat intro K hK
        refine wr ?_
        refine awp_cond rfl (fun hi' => ?_) (fun hi' => ?_)
        · simp at hi'
          have hpw : 10 ^ i * 10 ≤ 10 ^ 10 := by rw [← Nat.pow_succ]; exact Nat.pow_le_pow_right (by omega) (by omega)
          have hpc : 10 ^ 10 ≤ 1099511627776 := by decide
          obtain ⟨hx1, hx2⟩ := hx
          have hstep := digs_step (base := 10) (s := s) (i := i + 1) (x := x) (by omega)
          rw [← hx1] at hstep
          rw [List.getD_eq_getElem?_getD] at hstep
          generalize hcd : s[i + 1]?.getD 0 = c at hstep
          have hcu : (c.toNat : Int) ≤ 255 := by have := c.toNat_lt; omega
          have htn : ((i : Int) + 1).toNat = i + 1 := by omega
          have hcp : i + 1 < s.length := by omega
          refine au2 @htn @hcd ?_
          repeat intro K hK
          refine wr ?_
          refine ca (digit_ok c)  ?_
          refine au  ?_
          repeat intro K hK
          refine wr ?_
          cases hdg : digB c with
          | true =>
            have hdr : 48 ≤ c.toNat ∧ c.toNat ≤ 57 := by simpa [digB] using hdg
            have hd : dig 10 c = some (c.toNat - 48) := by unfold dig; rw [if_pos hdr]
            rw [hd] at hstep
            have w1 : IntKind.i64.wrap (IntKind.u8.wrap ((c.toNat : Int) - 48)) = ((c.toNat - 48 : Nat) : Int) := by rw [IntKind.wrap_u8, wrap_i64_in (by omega) (by omega)]; omega
            generalize hdd : c.toNat - 48 = d at hstep w1
            have hd9 : d ≤ 9 := by omega
            have hxn : IntKind.i64.wrap (IntKind.i64.wrap (10 * (x : Int)) + (d : Int)) = ((x * 10 + d : Nat) : Int) := by
              rw [wrap_i64_in (n := 10 * (x : Int)) (by omega) (by omega), wrap_i64_in (by omega) (by omega)]; omega
            refine awp_cond rfl (fun h => by simp at h) (fun _ => ?_)
            refine au5 @htn @hcd @w1 @hxn @hw ?_
            repeat intro K hK
            refine wr ?_
            refine again_of ((s.length - 1) - (i + 1)) ((fun (i : Nat) (x : Nat) => (⟨116, [(8, .int .i64 (((i : Int) + 1))), (7, .int .i64 x), (6, .int .i64 1), (0, .str s)], 0, [], 0⟩ : St)) (i + 1) (x * 10 + d)) (id) (by omega) (by rw [hI]; exact ⟨i + 1, (x * 10 + d), by omega, rfl, ⟨by exact hstep, by rw [Nat.pow_succ]; omega⟩, rfl⟩) ⟨rfl, ?_, ?_, ?_, by simp⟩
            · simp [leT, ltV, lt1, ren, ren1, wrap_i64_in (n := (i : Int) + 1) (by omega) (by omega), hw, hxn]
            · simp [leO, lt1, ren1, hw, hxn]
            · (simp; try omega)
          | false =>
            have hdr2 : ¬ (48 ≤ c.toNat ∧ c.toNat ≤ 57) := by
              intro q
              simp [digB, q] at hdg
            have hd : dig 10 c = none := by unfold dig; rw [if_neg hdr2, if_neg (fun q => by omega)]
            rw [hd] at hstep
            have hn : numX s = (0, false) := by unfold numX; rw [if_neg h, if_pos hm, if_neg hlen, hstep]
            refine awp_cond rfl (fun _ => ?_) (fun h => by simp at h)
            refine au  ?_
            repeat intro K hK
            refine wr ?_
            refine awp_ret ?_
            simp [hn]
        · simp at hi'
          have hie : i = s.length - 1 := by omega
          obtain ⟨hx1, hx2⟩ := hx
          rw [show i + 1 = s.length by omega, List.drop_length] at hx1
          have hp10 : 10 ^ i ≤ 10 ^ 10 := Nat.pow_le_pow_right (by omega) (by omega)
          have hpc : (10 : Nat) ^ 10 = 10000000000 := by decide
          simp only [digs] at hx1
          refine au  ?_
          repeat intro K hK
          refine wr ?_
          have hng : IntKind.i64.wrap (-(x : Int)) = -(x : Int) := wrap_i64_in (by omega) (by omega)
          have hn : numX s = (-(x : Int), decide (-2147483648 ≤ -(x : Int)) && decide (-(x : Int) ≤ 4294967295)) := by unfold numX; rw [if_neg h, if_pos hm, if_neg hlen, hx1]; simp only [if_pos hm]
          refine awp_cond rfl (fun _ => ?_) (fun h => by simp at h)
          refine au1 @hng ?_
          repeat intro K hK
          refine wr ?_
          refine awp_ret ?_
          simp [hn]
          try (rw [Bool.eq_iff_iff]; simp; try omega)
    · have hm' := hm
      rw [List.getD_eq_getElem?_getD] at hm'
      refine awp_cond rfl (fun q => ?_) (fun _ => ?_)
      · exfalso
        simp at q
        exact hm' (UInt8.toNat_inj.1 (by simp; omega))
      refine au1 @hm' ?_
      repeat intro K hK
      refine wr ?_
      have hsub : IntKind.i64.wrap ((s.length : Int)) = (s.length : Int) := wrap_i64_in (by omega) (by omega)
      refine au1 @hsub ?_
      repeat intro K hK
      refine wr ?_
      by_cases hlen : s.length - 0 < 1 ∨ 10 < s.length - 0
      · have hn : numX s = (0, false) := by unfold numX; rw [if_neg h, if_neg hm, if_pos hlen]
        refine awp_cond rfl (fun _ => ?_) (fun q => by simp [hsub] at q; omega)
        refine au  ?_
        repeat intro K hK
        refine wr ?_
        refine awp_ret ?_
        simp [hn]
      · refine awp_cond rfl (fun q => by simp [hsub] at q; omega) (fun _ => ?_)
        refine au  ?_
        repeat intro K hK
        refine wr ?_
        obtain ⟨I, hI⟩ : ∃ I : Nat → St → Prop, I = (fun kk ss => ∃ (i : Nat) (x : Nat), i ≤ (s.length - 0) ∧ kk = (s.length - 0) - i ∧ (digs 10 (s.drop 0) 0 = digs 10 (s.drop (i)) x ∧ x < 10 ^ i) ∧ ss = ⟨116, [(8, .int .i64 ((i : Int))), (7, .int .i64 x), (6, .int .i64 0), (0, .str s)], 0, [], 0⟩) := ⟨_, rfl⟩
        refine awp_loopA I (k0 := (s.length - 0)) (st0 := (fun (i : Nat) (x : Nat) => (⟨116, [(8, .int .i64 ((i : Int))), (7, .int .i64 x), (6, .int .i64 0), (0, .str s)], 0, [], 0⟩ : St)) 0 0) (ρ0 := id) ⟨rfl, by simp [leT, ltV, lt1, ren, ren1], by simp [leO, lt1, ren1], by simp, by simp⟩ (by rw [hI]; exact ⟨0, 0, by simp, by simp, ⟨by simp, by simp⟩, rfl⟩) ?_
        intro kk ss hIk _
        rw [hI] at hIk
        obtain ⟨i, x, hi, rfl, hx, rfl⟩ := hIk
        have hw : IntKind.i64.wrap ((i : Int) + 1) = (i : Int) + 1 := wrap_i64_in (by omega) (by omega)
        refine au  ?_
        repeat intro K hK
        refine wr ?_
        refine awp_cond rfl (fun hi' => ?_) (fun hi' => ?_)
        · simp at hi'
          have hpw : 10 ^ i * 10 ≤ 10 ^ 10 := by rw [← Nat.pow_succ]; exact Nat.pow_le_pow_right (by omega) (by omega)
          have hpc : 10 ^ 10 ≤ 1099511627776 := by decide
          obtain ⟨hx1, hx2⟩ := hx
          have hstep := digs_step (base := 10) (s := s) (i := i) (x := x) (by omega)
          rw [← hx1] at hstep
          rw [List.getD_eq_getElem?_getD] at hstep
          generalize hcd : s[i]?.getD 0 = c at hstep
          have hcu : (c.toNat : Int) ≤ 255 := by have := c.toNat_lt; omega
          have htn : ((i : Int) + 0).toNat = i := by omega
          have hcp : i < s.length := by omega
          refine au2 @htn @hcd ?_
          repeat intro K hK
          refine wr ?_
          refine ca (digit_ok c)  ?_
          refine au  ?_
          repeat intro K hK
          refine wr ?_
          cases hdg : digB c with
          | true =>
            have hdr : 48 ≤ c.toNat ∧ c.toNat ≤ 57 := by simpa [digB] using hdg
            have hd : dig 10 c = some (c.toNat - 48) := by unfold dig; rw [if_pos hdr]
            rw [hd] at hstep
            have w1 : IntKind.i64.wrap (IntKind.u8.wrap ((c.toNat : Int) - 48)) = ((c.toNat - 48 : Nat) : Int) := by rw [IntKind.wrap_u8, wrap_i64_in (by omega) (by omega)]; omega
            generalize hdd : c.toNat - 48 = d at hstep w1
            have hd9 : d ≤ 9 := by omega
            have hxn : IntKind.i64.wrap (IntKind.i64.wrap (10 * (x : Int)) + (d : Int)) = ((x * 10 + d : Nat) : Int) := by
              rw [wrap_i64_in (n := 10 * (x : Int)) (by omega) (by omega), wrap_i64_in (by omega) (by omega)]; omega
            refine awp_cond rfl (fun h => by simp at h) (fun _ => ?_)
            refine au5 @htn @hcd @w1 @hxn @hw ?_
            repeat intro K hK
            refine wr ?_
            refine again_of ((s.length - 0) - (i + 1)) ((fun (i : Nat) (x : Nat) => (⟨116, [(8, .int .i64 ((i : Int))), (7, .int .i64 x), (6, .int .i64 0), (0, .str s)], 0, [], 0⟩ : St)) (i + 1) (x * 10 + d)) (id) (by omega) (by rw [hI]; exact ⟨i + 1, (x * 10 + d), by omega, rfl, ⟨by exact hstep, by rw [Nat.pow_succ]; omega⟩, rfl⟩) ⟨rfl, ?_, ?_, ?_, by simp⟩
            · simp [leT, ltV, lt1, ren, ren1, wrap_i64_in (n := (i : Int) + 1) (by omega) (by omega), hw, hxn]
            · simp [leO, lt1, ren1, hw, hxn]
            · (simp; try omega)
          | false =>
            have hdr2 : ¬ (48 ≤ c.toNat ∧ c.toNat ≤ 57) := by
              intro q
              simp [digB, q] at hdg
            have hd : dig 10 c = none := by unfold dig; rw [if_neg hdr2, if_neg (fun q => by omega)]
            rw [hd] at hstep
            have hn : numX s = (0, false) := by unfold numX; rw [if_neg h, if_neg hm, if_neg hlen, hstep]
            refine awp_cond rfl (fun _ => ?_) (fun h => by simp at h)
            refine au  ?_
            repeat intro K hK
            refine wr ?_
            refine awp_ret ?_
            simp [hn]
        · simp at hi'
          have hie : i = s.length - 0 := by omega
          obtain ⟨hx1, hx2⟩ := hx
          rw [show i = s.length by omega, List.drop_length] at hx1
          have hp10 : 10 ^ i ≤ 10 ^ 10 := Nat.pow_le_pow_right (by omega) (by omega)
          have hpc : (10 : Nat) ^ 10 = 10000000000 := by decide
          simp only [digs] at hx1
          refine au  ?_
          repeat intro K hK
          refine wr ?_
          have hn : numX s = ((x : Int), decide (-2147483648 ≤ (x : Int)) && decide ((x : Int) ≤ 4294967295)) := by unfold numX; rw [if_neg h, if_neg hm, if_neg hlen, hx1]; simp only [if_neg hm]
          refine awp_cond rfl (fun h => by simp at h) (fun _ => ?_)
          refine au  ?_
          repeat intro K hK
          refine wr ?_
          refine awp_ret ?_
          simp [hn]
          try (rw [Bool.eq_iff_iff]; simp; try omega)
end Go.Proofs.YtjlbpkokdlggiaaDoor
