/- The document's Disassemble. (Numbers of seat r2.ZD.) -/
import Derived.Test.YtjlbpkokdlggiaaGreatDoorAs18
import Derived.Test.YtjlbpkokdlggiaaGreatDoorRefB
namespace Go.Proofs.YtjlbpkokdlggiaaGreatDoor
open Go.Ab Go.RowKit
set_option linter.unusedSimpArgs false
set_option maxRecDepth 100000
/-- the lower k digits of a number -/
def hexR (w : Nat) : Nat → Str
  | 0 => []
  | k + 1 => hx (w / 16 ^ k % 16) :: hexR w k
theorem hexR_low (n : Nat) : ∀ k, hexR n (k + 1) = hexR (n / 16) k ++ [hx (n % 16)]
  | 0 => by simp [hexR]
  | k + 1 => by
    have h := hexR_low n k
    have e : n / 16 ^ (k + 1) = n / 16 / 16 ^ k := by rw [Nat.pow_succ, Nat.mul_comm, Nat.div_div_eq_div_mul]
    rw [hexR, h, hexR, e]; rfl
theorem hexR_zero : ∀ k, hexR 0 k = List.replicate k 48
  | 0 => rfl
  | k + 1 => by rw [hexR, hexR_zero k, List.replicate_succ]; simp; rfl
theorem hexF_pad : ∀ (k n : Nat), n < 16 ^ k → List.replicate (k - (hexF k n).length) 48 ++ hexF k n = hexR n k
  | 0, n, _ => by simp [hexF, hexR]
  | k + 1, n, h => by
    rw [hexR_low]
    unfold hexF
    by_cases h16 : n < 16
    · rw [if_pos h16, show n / 16 = 0 by omega, hexR_zero, show n % 16 = n by omega]; simp
    · rw [if_neg h16, ← hexF_pad k (n / 16) (by rw [Nat.pow_succ] at h; omega)]
      simp
theorem hex8_R (n : Nat) (h : n < 4294967296) : hex8 n = hexR n 8 := hexF_pad 8 n (by simpa using h)
theorem hexR_take (n j : Nat) (h : j < 8) : (hexR n 8).take (j + 1) = (hexR n 8).take j ++ [hx (n / 16 ^ (7 - j) % 16)] := by
  have : j = 0 ∨ j = 1 ∨ j = 2 ∨ j = 3 ∨ j = 4 ∨ j = 5 ∨ j = 6 ∨ j = 7 := by omega
  rcases this with rfl | rfl | rfl | rfl | rfl | rfl | rfl | rfl <;> rfl
theorem dg16_idx : ∀ d < 16, ([48, 49, 50, 51, 52, 53, 54, 55, 56, 57, 97, 98, 99, 100, 101, 102] : Str)[d]?.getD 0 = hx d := by decide
theorem nib (z : Int) (h0 : 0 ≤ z) (m : Nat) (hm : m ≤ 7) : IntKind.u32.wrap (((z.fdiv (2 ^ min (4 * m) IntKind.u32.bits) % 2 ^ IntKind.u32.bits).toNat &&& 15 : Nat) : Int) = ((z.toNat / 16 ^ m % 16 : Nat) : Int) := by
  have h1 := nmask (z.fdiv (2 ^ min (4 * m) IntKind.u32.bits)) 4 16 15 (by omega) (by decide) (by decide) (by omega)
  have hb : IntKind.u32.bits = 32 := rfl
  have h2 : (2 : Int) ^ min (4 * m) IntKind.u32.bits = ((16 ^ m : Nat) : Int) := by
    rw [hb, Nat.min_eq_left (by omega), Int.pow_mul]
    simp
  have h3 : z.fdiv ((16 ^ m : Nat) : Int) = ((z.toNat / 16 ^ m : Nat) : Int) := by
    rw [Int.fdiv_eq_ediv_of_nonneg _ (Int.natCast_nonneg _)]
    have : z = ((z.toNat : Nat) : Int) := by omega
    conv => lhs; rw [this]
    rfl
  rw [h1, h2, h3]
  omega
theorem disW_len' (w : Int) : (disW w).length ≤ 80 := by rw [disW_eq]; exact disT_len w
theorem disS_take' (ws : List Int) (i : Nat) (h : i < ws.length) : disS (ws.take (i + 1)) = disS (ws.take i) ++ disW ws[i] ++ [10] := by
  unfold disS
  rw [List.take_succ_eq_append_getElem h, List.flatMap_append]; simp
@[simp] theorem bytesX_nil' : bytesX [] = [] := rfl
theorem bytesX_two (a b : Str) : bytesX a ++ bytesX b = bytesX (a ++ b) := by simp [bytesX]
set_option maxHeartbeats 16000000 in
theorem disR_ok (ws : List Int) (hw : inW ws) (hl : ws.length ≤ 1000) : Meets Tryz.prog 12 [.sl 1 false (ints .u32 ws)] (.str (disS ws)) := by
  have hil := ints_len .u32 ws
  refine Meets.of Tryz.func12 rfl (by kernel_rfl) rfl ?_
  simp only [Tryz.ntmps12, St.start, argT]
  repeat (first | (with_reducible first | refine awp_seqK fun K hK => ?_ | refine awp_block ?_) | ((with_reducible first | refine awp_region (by kernel_rfl) ?_ | refine gcall_tt ?_ | refine gcall_ff ?_ | refine gcall_tf ?_ | refine gcall_ft ?_ | refine awp_skip ?_ | refine awp_exit ?_); simp) | ((repeat ((fail_if_success ((with_reducible refine hK _ ?_))); clear hK)); (with_reducible refine hK _ ?_); clear hK) | refine And.intro (by first | omega | assumption | grind) ?_)
  refine awp_nilOwn 3 5 1 (by decide) rfl ?_
  obtain ⟨I, hI⟩ : ∃ I : Nat → St → Prop, I = (fun kk ss => ∃ (i : Nat) (s : Str), i ≤ ws.length ∧ kk = ws.length - i ∧ (s = disS (ws.take i)) ∧ ss = ⟨51, [(4, .int .i64 i), (3, .own 0), (0, .sl 1 false (ints .u32 ws))], 1, [(0, some ⟨5, 1, false, false, bytesX s⟩)], 0⟩) := ⟨_, rfl⟩
  refine awp_loopA I (k0 := ws.length) (st0 := (fun (i : Nat) (s : Str) => (⟨51, [(4, .int .i64 i), (3, .own 0), (0, .sl 1 false (ints .u32 ws))], 1, [(0, some ⟨5, 1, false, false, bytesX s⟩)], 0⟩ : St)) 0 []) (ρ0 := id) ⟨rfl, by simp [leT, ltV, lt1, ren, ren1], by simp [leO, lt1, ren1], by simp, by simp⟩ (by rw [hI]; exact ⟨0, [], by simp, by simp, rfl, rfl⟩) ?_
  intro kk ss hIk _
  rw [hI] at hIk
  obtain ⟨i, s, hi, rfl, hx, rfl⟩ := hIk
  have hxo := hx
  clear hx
  have hi1 : IntKind.i64.wrap ((i : Int) + 1) = ((i + 1 : Nat) : Int) := by rw [wrap_i64_in (by omega) (by omega)]; omega
  repeat (first | (with_reducible first | refine awp_seqK fun K hK => ?_ | refine awp_block ?_) | ((with_reducible first | refine awp_region (by kernel_rfl) ?_ | refine gcall_tt ?_ | refine gcall_ff ?_ | refine gcall_tf ?_ | refine gcall_ft ?_ | refine awp_skip ?_ | refine awp_exit ?_); simp [hil]) | ((repeat ((fail_if_success ((with_reducible refine hK _ ?_))); clear hK)); (with_reducible refine hK _ ?_); clear hK) | refine And.intro (by first | omega | assumption | grind) ?_)
  by_cases hi' : i < ws.length
  · obtain ⟨z, hz⟩ : ∃ z, z = ws[i] := ⟨_, rfl⟩
    have hget : (ints .u32 ws)[i]? = some [.int .u32 z] := by rw [hz]; exact iint_at _ ws i hi'
    have hzl := disW_len' z
    obtain ⟨z0, z1⟩ := hw z (by rw [hz]; exact List.getElem_mem hi')
    have hst := disS_take' ws i hi'
    rw [← hz, ← hxo] at hst
    have hsl := dis_len (ws.take i)
    rw [← hxo] at hsl
    have hsl2 : (ws.take i).length ≤ 1000 := by simp; omega
    have hbl : (bytesX s).length = s.length := by simp [bytesX]
    have hml : s.length + 1000 ≤ maxLen := by simp [maxLen]; omega
    have htwo := bytesX_two
    have hten : [[V.int .u8 10]] = bytesX [10] := rfl
    refine awp_cond rfl (fun _ => ?_) (fun h => by simp [hi'] at h)
    repeat (first | (with_reducible first | refine awp_seqK fun K hK => ?_ | refine awp_block ?_) | ((with_reducible first | refine awp_region (by kernel_rfl) ?_ | refine gcall_tt ?_ | refine gcall_ff ?_ | refine gcall_tf ?_ | refine gcall_ft ?_ | refine awp_skip ?_ | refine awp_exit ?_); simp [hget, hil]) | ((repeat ((fail_if_success ((with_reducible refine hK _ ?_))); clear hK)); (with_reducible refine hK _ ?_); clear hK) | refine And.intro (by first | omega | assumption | grind) ?_)
    first | refine .inl ⟨0, _, decodeR_ok z z0 z1, ?_⟩ | refine .inl ⟨0, _, Meets.wk (decodeR_ok z z0 z1) (by simp), ?_⟩ | refine ⟨0, _, decodeR_ok z z0 z1, ?_⟩ | refine ⟨0, _, Meets.wk (decodeR_ok z z0 z1) (by simp), ?_⟩
    simp [aftC, aftE]
    repeat (first | (with_reducible first | refine awp_seqK fun K hK => ?_ | refine awp_block ?_) | ((with_reducible first | refine awp_region (by kernel_rfl) ?_ | refine gcall_tt ?_ | refine gcall_ff ?_ | refine gcall_tf ?_ | refine gcall_ft ?_ | refine awp_skip ?_ | refine awp_exit ?_); simp) | ((repeat ((fail_if_success ((with_reducible refine hK _ ?_))); clear hK)); (with_reducible refine hK _ ?_); clear hK) | refine And.intro (by first | omega | assumption | grind) ?_)
    cases hv : validD (decI z) with
    | true =>
      have hd : disW z = fmtD (decI z) := by unfold disW; rw [if_pos hv]
      obtain ⟨f1, f2, f3, f4, f5, f6⟩ := valid_facts hv
      rw [hd] at hzl hst
      have hbl2 : (bytesX (s ++ fmtD (decI z))).length = s.length + (fmtD (decI z)).length := by simp [bytesX]
      refine awp_cond rfl (fun _ => ?_) (fun h => by simp at h)
      repeat (first | (with_reducible first | refine awp_seqK fun K hK => ?_ | refine awp_block ?_) | ((with_reducible first | refine awp_region (by kernel_rfl) ?_ | refine gcall_tt ?_ | refine gcall_ff ?_ | refine gcall_tf ?_ | refine gcall_ft ?_ | refine awp_skip ?_ | refine awp_exit ?_); simp [hv]) | ((repeat ((fail_if_success ((with_reducible refine hK _ ?_))); clear hK)); (with_reducible refine hK _ ?_); clear hK) | refine And.intro (by first | omega | assumption | grind) ?_)
      first | refine .inl ⟨0, _, formatR_ok (decI z) (by omega), ?_⟩ | refine .inl ⟨0, _, Meets.wk (formatR_ok (decI z) (by omega)) (by simp), ?_⟩ | refine ⟨0, _, formatR_ok (decI z) (by omega), ?_⟩ | refine ⟨0, _, Meets.wk (formatR_ok (decI z) (by omega)) (by simp), ?_⟩
      simp [aftC, aftE]
      repeat (first | (with_reducible first | refine awp_seqK fun K hK => ?_ | refine awp_block ?_) | ((with_reducible first | refine awp_region (by kernel_rfl) ?_ | refine gcall_tt ?_ | refine gcall_ff ?_ | refine gcall_tf ?_ | refine gcall_ft ?_ | refine awp_skip ?_ | refine awp_exit ?_); simp [hbl, htwo, hbl2, hten]) | ((repeat ((fail_if_success ((with_reducible refine hK _ ?_))); clear hK)); (with_reducible refine hK _ ?_); clear hK) | refine And.intro (by first | omega | assumption | grind) ?_)
      refine again_of (ws.length - (i + 1)) ((fun (i : Nat) (s : Str) => (⟨51, [(4, .int .i64 i), (3, .own 0), (0, .sl 1 false (ints .u32 ws))], 1, [(0, some ⟨5, 1, false, false, bytesX s⟩)], 0⟩ : St)) (i + 1) (s ++ fmtD (decI z) ++ [10])) (fun x => if x = 0 then 11 else x) (by omega) (by rw [hI]; exact ⟨i + 1, (s ++ fmtD (decI z) ++ [10]), by omega, rfl, hst.symm, rfl⟩) ⟨rfl, ?_, ?_, ?_, by simp⟩
      · simp [leT, ltV, lt1, ren, ren1, wrap_i64_in (n := (i : Int) + 1) (by omega) (by omega), hi1]
      · simp [leO, lt1, ren1, hi1]
      · (simp; try omega)
    | false =>
      have hd : disW z = [46, 119, 111, 114, 100, 32, 48, 120] ++ hexR z.toNat 8 := by
        unfold disW; rw [if_neg (by rw [hv]; decide), hexT, hex8_R _ (by omega)]; simp [wordS]
      refine awp_cond rfl (fun h => by simp at h) (fun _ => ?_)
      repeat (first | (with_reducible first | refine awp_seqK fun K hK => ?_ | refine awp_block ?_) | ((with_reducible first | refine awp_region (by kernel_rfl) ?_ | refine gcall_tt ?_ | refine gcall_ff ?_ | refine gcall_tf ?_ | refine gcall_ft ?_ | refine awp_skip ?_ | refine awp_exit ?_); simp [hv, hbl, htwo]) | ((repeat ((fail_if_success ((with_reducible refine hK _ ?_))); clear hK)); (with_reducible refine hK _ ?_); clear hK) | refine And.intro (by first | omega | assumption | grind) ?_)
      obtain ⟨Ij, hIj⟩ : ∃ I : Nat → St → Prop, I = (fun kk ss => ∃ (j : Nat) (t : Str), j ≤ 8 ∧ kk = 8 - j ∧ (t = s ++ [46, 119, 111, 114, 100, 32, 48, 120] ++ (hexR z.toNat 8).take j) ∧ ss = ⟨51, [(7, .int .i64 ((7 : Int) - j)), (4, .int .i64 i), (3, .own 8), (0, .sl 1 false (ints .u32 ws))], 9, [(8, some ⟨5, 1, false, false, bytesX t⟩)], 0⟩) := ⟨_, rfl⟩
      refine awp_loopA Ij (k0 := 8) (st0 := (fun (j : Nat) (t : Str) => (⟨51, [(7, .int .i64 ((7 : Int) - j)), (4, .int .i64 i), (3, .own 8), (0, .sl 1 false (ints .u32 ws))], 9, [(8, some ⟨5, 1, false, false, bytesX t⟩)], 0⟩ : St)) 0 (s ++ [46, 119, 111, 114, 100, 32, 48, 120])) (ρ0 := id) ⟨rfl, by simp [leT, ltV, lt1, ren, ren1], by simp [leO, lt1, ren1], by simp, by simp⟩ (by rw [hIj]; exact ⟨0, (s ++ [46, 119, 111, 114, 100, 32, 48, 120]), by simp, by simp, by simp, rfl⟩) ?_
      intro kk ss hIk _
      rw [hIj] at hIk
      obtain ⟨j, t, hj, rfl, hxj, rfl⟩ := hIk
      repeat (first | (with_reducible first | refine awp_seqK fun K hK => ?_ | refine awp_block ?_) | ((with_reducible first | refine awp_region (by kernel_rfl) ?_ | refine gcall_tt ?_ | refine gcall_ff ?_ | refine gcall_tf ?_ | refine gcall_ft ?_ | refine awp_skip ?_ | refine awp_exit ?_); simp) | ((repeat ((fail_if_success ((with_reducible refine hK _ ?_))); clear hK)); (with_reducible refine hK _ ?_); clear hK) | refine And.intro (by first | omega | assumption | grind) ?_)
      by_cases hj' : j < 8
      · have hjk : (j : Int) ≤ 7 := by omega
        have hj0 : (0 : Int) ≤ 4 * (7 - (j : Int)) := by omega
        have w64 : IntKind.u64.wrap (IntKind.i64.wrap (4 * (7 - (j : Int)))) = 4 * (7 - (j : Int)) := by rw [wrap_i64_in (by omega) (by omega), IntKind.wrap_u64]; omega
        have htn : (4 * (7 - (j : Int))).toNat = 4 * (7 - j) := by omega
        have hn := nib z z0 (7 - j) (by omega)
        obtain ⟨d, hd2⟩ : ∃ d, d = z.toNat / 16 ^ (7 - j) % 16 := ⟨_, rfl⟩
        have hd16 : d < 16 := by omega
        have htk := hexR_take z.toNat j hj'
        rw [← hd2] at hn htk
        have hdg := dg16_idx d hd16
        have m15 : 15 % 2 ^ IntKind.u32.bits = 15 := by decide
        have hdi : ((d : Nat) : Int) < 16 := by omega
        have hap : bytesX t ++ [[V.int .u8 ((hx d).toNat : Int)]] = bytesX (t ++ [hx d]) := by simp [bytesX]
        have hbt : (bytesX t).length = t.length := by simp [bytesX]
        have htl : t.length ≤ 140737488355327 := by rw [hxj]; simp only [List.length_append, List.length_cons, List.length_nil, List.length_take]; omega
        have htm : t.length + 1 ≤ maxLen := by rw [hxj]; simp only [maxLen, List.length_append, List.length_cons, List.length_nil, List.length_take]; omega
        have hwj : IntKind.i64.wrap (7 - (j : Int) - 1) = 7 - ((j : Int) + 1) := by rw [wrap_i64_in (by omega) (by omega)]; omega
        refine awp_cond rfl (fun _ => ?_) (fun h => by simp [hjk] at h)
        repeat (first | (with_reducible first | refine awp_seqK fun K hK => ?_ | refine awp_block ?_) | ((with_reducible first | refine awp_region (by kernel_rfl) ?_ | refine gcall_tt ?_ | refine gcall_ff ?_ | refine gcall_tf ?_ | refine gcall_ft ?_ | refine awp_skip ?_ | refine awp_exit ?_); simp [-b32, -bi32, hget, hil, w64, htn, hn, m15, hdg, hdi, hj0, hap, hbt, htl, htm, hwj]) | ((repeat ((fail_if_success ((with_reducible refine hK _ ?_))); clear hK)); (with_reducible refine hK _ ?_); clear hK) | refine And.intro (by first | omega | assumption | grind) ?_)
        refine again_of (8 - (j + 1)) ((fun (j : Nat) (t : Str) => (⟨51, [(7, .int .i64 ((7 : Int) - j)), (4, .int .i64 i), (3, .own 8), (0, .sl 1 false (ints .u32 ws))], 9, [(8, some ⟨5, 1, false, false, bytesX t⟩)], 0⟩ : St)) (j + 1) (t ++ [hx d])) (fun x => if x = 8 then 10 else x) (by omega) (by rw [hIj]; exact ⟨j + 1, (t ++ [hx d]), by omega, rfl, by rw [hxj, htk]; simp only [List.append_assoc], rfl⟩) ⟨rfl, ?_, ?_, ?_, by simp⟩
        · simp [leT, ltV, lt1, ren, ren1, wrap_i64_in (n := (j : Int) + 1) (by omega) (by omega), hwj]
        · simp [leO, lt1, ren1, hwj]
        · (simp; try omega)
      · have hjk : j = 8 := by omega
        subst hjk
        have hfull : (hexR z.toNat 8).take 8 = hexR z.toNat 8 := rfl
        rw [hfull] at hxj
        have hap : bytesX t ++ [[V.int .u8 10]] = bytesX (t ++ [10]) := by simp [bytesX]
        have hbt : (bytesX t).length = t.length := by simp [bytesX]
        have hr8 : (hexR z.toNat 8).length = 8 := rfl
        have htl : t.length ≤ 140737488355327 := by rw [hxj]; simp only [List.length_append, List.length_cons, List.length_nil, hr8]; omega
        have htm : t.length + 1 ≤ maxLen := by rw [hxj]; simp only [maxLen, List.length_append, List.length_cons, List.length_nil, hr8]; omega
        refine awp_cond rfl (fun h => by simp at h) (fun _ => ?_)
        repeat (first | (with_reducible first | refine awp_seqK fun K hK => ?_ | refine awp_block ?_) | ((with_reducible first | refine awp_region (by kernel_rfl) ?_ | refine gcall_tt ?_ | refine gcall_ff ?_ | refine gcall_tf ?_ | refine gcall_ft ?_ | refine awp_skip ?_ | refine awp_exit ?_); simp [hap, hbt, htl, htm]) | ((repeat ((fail_if_success ((with_reducible refine hK _ ?_))); clear hK)); (with_reducible refine hK _ ?_); clear hK) | refine And.intro (by first | omega | assumption | grind) ?_)
        refine again_of (ws.length - (i + 1)) ((fun (i : Nat) (s : Str) => (⟨51, [(4, .int .i64 i), (3, .own 0), (0, .sl 1 false (ints .u32 ws))], 1, [(0, some ⟨5, 1, false, false, bytesX s⟩)], 0⟩ : St)) (i + 1) (t ++ [10])) (fun x => if x = 0 then 10 else x) (by omega) (by rw [hI]; exact ⟨i + 1, (t ++ [10]), by omega, rfl, by rw [hst, hd, hxj]; simp only [List.append_assoc], rfl⟩) ⟨rfl, ?_, ?_, ?_, by simp⟩
        · simp [leT, ltV, lt1, ren, ren1, wrap_i64_in (n := (i : Int) + 1) (by omega) (by omega), hi1]
        · simp [leO, lt1, ren1, hi1]
        · (simp; try omega)
  · have hil' : i = ws.length := by omega
    subst hil'
    rw [List.take_length] at hxo
    have hbs := bytesX_str s
    have hbb := bytesX_isB s
    refine awp_cond rfl (fun h => by simp at h) (fun _ => ?_)
    repeat (first | (with_reducible first | refine awp_seqK fun K hK => ?_ | refine awp_block ?_) | ((with_reducible first | refine awp_region (by kernel_rfl) ?_ | refine gcall_tt ?_ | refine gcall_ff ?_ | refine gcall_tf ?_ | refine gcall_ft ?_ | refine awp_skip ?_ | refine awp_exit ?_); simp [hbs, hbb]) | ((repeat ((fail_if_success ((with_reducible refine hK _ ?_))); clear hK)); (with_reducible refine hK _ ?_); clear hK) | refine And.intro (by first | omega | assumption | grind) ?_)
    refine awp_ret ?_
    simp [hxo]
end Go.Proofs.YtjlbpkokdlggiaaGreatDoor
