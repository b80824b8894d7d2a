/- Disassemble. (Numbers of seat r2.D.) -/
import Derived.Test.YtjlbpkokdlggiaaGreatDoorAs18
import Derived.Test.YtjlbpkokdlggiaaGreatDoorBld3
import Derived.Test.YtjlbpkokdlggiaaGreatDoorFmt
namespace Go.Proofs.YtjlbpkokdlggiaaGreatDoor
open Go.Ab Go.RowKit
set_option linter.unusedSimpArgs false
set_option maxRecDepth 100000
theorem disW_len (w : Int) : (disW w).length ≤ 80 := by rw [disW_eq]; exact disT_len w
@[simp] theorem bytesX_nil : bytesX [] = [] := rfl
theorem disS_take (ws : List Int) (i : Nat) (h : i < ws.length) : disS (ws.take (i + 1)) = disS (ws.take i) ++ disW ws[i] ++ [10] := by
  unfold disS
  rw [List.take_succ_eq_append_getElem h, List.flatMap_append]; simp
set_option maxHeartbeats 16000000 in
theorem dis_ok (ws : List Int) (hw : inW ws) (hl : ws.length ≤ 1000) : Meets Tryz.prog 10 [.sl 1 false (ints .u32 ws)] (.str (disS ws)) := by
  have hil := ints_len .u32 ws
  refine Meets.of Tryz.func10 rfl (by kernel_rfl) rfl ?_
  simp only [Tryz.ntmps10, St.start, argT]
  repeat (first | (with_reducible first | refine awp_seqK fun K hK => ?_ | refine awp_block ?_) | ((with_reducible first | refine awp_region (by kernel_rfl) ?_ | refine gcall_tt ?_ | refine gcall_ff ?_ | refine gcall_tf ?_ | refine gcall_ft ?_ | refine awp_skip ?_ | refine awp_exit ?_); simp) | ((repeat ((fail_if_success ((with_reducible refine hK _ ?_))); clear hK)); (with_reducible refine hK _ ?_); clear hK) | refine And.intro (by first | omega | assumption | grind) ?_)
  refine awp_nilCell 0 1 5 1 (by decide) (by simp [lookO]; rfl) rfl rfl rfl ?_
  simp [hil]
  obtain ⟨I, hI⟩ : ∃ I : Nat → St → Prop, I = (fun kk ss => ∃ (i : Nat) (s : Str) (c : V), i ≤ ws.length ∧ kk = ws.length - i ∧ (s = disS (ws.take i) ∧ (c = .nilp ∨ c = .ptr 0 2 0 0)) ∧ ss = ⟨38, [(11, .int .i64 i), (10, .int .i64 ws.length), (9, .sl 1 false (ints .u32 ws)), (3, .ptr 0 2 0 0)], 2, [(0, some (bldO c (.own 1))), (1, some (bufO s))], 0⟩) := ⟨_, rfl⟩
  refine awp_loopA I (k0 := ws.length) (st0 := (fun (i : Nat) (s : Str) (c : V) => (⟨38, [(11, .int .i64 i), (10, .int .i64 ws.length), (9, .sl 1 false (ints .u32 ws)), (3, .ptr 0 2 0 0)], 2, [(0, some (bldO c (.own 1))), (1, some (bufO s))], 0⟩ : St)) 0 [] .nilp) (ρ0 := id) ⟨rfl, by simp [leT, ltV, lt1, ren, ren1], by simp [leO, lt1, ren1], by simp, by simp⟩ (by rw [hI]; exact ⟨0, [], .nilp, by simp, by simp, ⟨rfl, .inl rfl⟩, rfl⟩) ?_
  intro kk ss hIk _
  rw [hI] at hIk
  obtain ⟨i, s, c, hi, rfl, hx, rfl⟩ := hIk
  obtain ⟨hs, hc⟩ := hx
  have hsl := dis_len (ws.take i)
  rw [← hs] at hsl
  have hsl2 : (ws.take i).length ≤ 1000 := by simp; omega
  have hi1 : IntKind.i64.wrap ((i : Int) + 1) = ((i + 1 : Nat) : Int) := by rw [wrap_i64_in (by omega) (by omega)]; omega
  repeat (first | (with_reducible first | refine awp_seqK fun K hK => ?_ | refine awp_block ?_) | ((with_reducible first | refine awp_region (by kernel_rfl) ?_ | refine gcall_tt ?_ | refine gcall_ff ?_ | refine gcall_tf ?_ | refine gcall_ft ?_ | refine awp_skip ?_ | refine awp_exit ?_); simp) | ((repeat ((fail_if_success ((with_reducible refine hK _ ?_))); clear hK)); (with_reducible refine hK _ ?_); clear hK) | refine And.intro (by first | omega | assumption | grind) ?_)
  by_cases hi' : i < ws.length
  · obtain ⟨z, hz⟩ : ∃ z, z = ws[i] := ⟨_, rfl⟩
    have hget : (ints .u32 ws)[i]? = some [.int .u32 z] := by rw [hz]; exact iint_at _ ws i hi'
    have hzl := disW_len z
    obtain ⟨z0, z1⟩ := hw z (by rw [hz]; exact List.getElem_mem hi')
    have hst := disS_take ws i hi'
    rw [← hz, ← hs] at hst
    refine awp_cond rfl (fun _ => ?_) (fun h => by simp [hi'] at h)
    repeat (first | (with_reducible first | refine awp_seqK fun K hK => ?_ | refine awp_block ?_) | ((with_reducible first | refine awp_region (by kernel_rfl) ?_ | refine gcall_tt ?_ | refine gcall_ff ?_ | refine gcall_tf ?_ | refine gcall_ft ?_ | refine awp_skip ?_ | refine awp_exit ?_); simp [hget, hil]) | ((repeat ((fail_if_success ((with_reducible refine hK _ ?_))); clear hK)); (with_reducible refine hK _ ?_); clear hK) | refine And.intro (by first | omega | assumption | grind) ?_)
    first | refine .inl ⟨0, _, decode_ok z, ?_⟩ | refine .inl ⟨0, _, Meets.wk (decode_ok z) (by simp), ?_⟩ | refine ⟨0, _, decode_ok z, ?_⟩ | refine ⟨0, _, Meets.wk (decode_ok z) (by simp), ?_⟩
    simp [aftC, aftE]
    repeat (first | (with_reducible first | refine awp_seqK fun K hK => ?_ | refine awp_block ?_) | ((with_reducible first | refine awp_region (by kernel_rfl) ?_ | refine gcall_tt ?_ | refine gcall_ff ?_ | refine gcall_tf ?_ | refine gcall_ft ?_ | refine awp_skip ?_ | refine awp_exit ?_); simp) | ((repeat ((fail_if_success ((with_reducible refine hK _ ?_))); clear hK)); (with_reducible refine hK _ ?_); clear hK) | refine And.intro (by first | omega | assumption | grind) ?_)
    cases hv : validD (decI z) with
    | true =>
      have hd : disW z = fmtD (decI z) := by unfold disW; rw [if_pos hv]
      refine awp_cond rfl (fun _ => ?_) (fun h => by simp at h)
      repeat (first | (with_reducible first | refine awp_seqK fun K hK => ?_ | refine awp_block ?_) | ((with_reducible first | refine awp_region (by kernel_rfl) ?_ | refine gcall_tt ?_ | refine gcall_ff ?_ | refine gcall_tf ?_ | refine gcall_ft ?_ | refine awp_skip ?_ | refine awp_exit ?_); simp [hv]) | ((repeat ((fail_if_success ((with_reducible refine hK _ ?_))); clear hK)); (with_reducible refine hK _ ?_); clear hK) | refine And.intro (by first | omega | assumption | grind) ?_)
      first | refine .inl ⟨0, _, format_ok (decI z), ?_⟩ | refine .inl ⟨0, _, Meets.wk (format_ok (decI z)) (by simp), ?_⟩ | refine ⟨0, _, format_ok (decI z), ?_⟩ | refine ⟨0, _, Meets.wk (format_ok (decI z)) (by simp), ?_⟩
      simp [aftC, aftE]
      repeat (first | (with_reducible first | refine awp_seqK fun K hK => ?_ | refine awp_block ?_) | ((with_reducible first | refine awp_region (by kernel_rfl) ?_ | refine gcall_tt ?_ | refine gcall_ff ?_ | refine gcall_tf ?_ | refine gcall_ft ?_ | refine awp_skip ?_ | refine awp_exit ?_); simp) | ((repeat ((fail_if_success ((with_reducible refine hK _ ?_))); clear hK)); (with_reducible refine hK _ ?_); clear hK) | refine And.intro (by first | omega | assumption | grind) ?_)
      rw [hd] at hzl
      refine .inr ((wstr_ok 0 1 c s (fmtD (decI z)) (by simp [lookO]) (by simp [lookO]) hc (by decide) (by decide) (by decide) (by omega)).mono fun r nx' ob' hp => ?_)
      obtain ⟨rfl, k, hk1, hk2, hk3, hk4, hk5⟩ := hp
      repeat (first | (with_reducible first | refine awp_seqK fun K hK => ?_ | refine awp_block ?_) | ((with_reducible first | refine awp_region (by kernel_rfl) ?_ | refine gcall_tt ?_ | refine gcall_ff ?_ | refine gcall_tf ?_ | refine gcall_ft ?_ | refine awp_skip ?_ | refine awp_exit ?_); simp) | ((repeat ((fail_if_success ((with_reducible refine hK _ ?_))); clear hK)); (with_reducible refine hK _ ?_); clear hK) | refine And.intro (by first | omega | assumption | grind) ?_)
      refine .inr ((wbyte_ok 0 k (.ptr 0 2 0 0) (s ++ fmtD (decI z)) 10 hk4 hk3 (.inr rfl) (by omega) hk2 (by omega) (by simp only [List.length_append]; omega)).mono fun r nx' ob' hp => ?_)
      obtain ⟨rfl, k2, hj1, hj2, hj3, hj4, hj5⟩ := hp
      repeat (first | (with_reducible first | refine awp_seqK fun K hK => ?_ | refine awp_block ?_) | ((with_reducible first | refine awp_region (by kernel_rfl) ?_ | refine gcall_tt ?_ | refine gcall_ff ?_ | refine gcall_tf ?_ | refine gcall_ft ?_ | refine awp_skip ?_ | refine awp_exit ?_); simp [hi1]) | ((repeat ((fail_if_success ((with_reducible refine hK _ ?_))); clear hK)); (with_reducible refine hK _ ?_); clear hK) | refine And.intro (by first | omega | assumption | grind) ?_)
      refine again_of (ws.length - (i + 1)) ((fun (i : Nat) (s : Str) (c : V) => (⟨38, [(11, .int .i64 i), (10, .int .i64 ws.length), (9, .sl 1 false (ints .u32 ws)), (3, .ptr 0 2 0 0)], 2, [(0, some (bldO c (.own 1))), (1, some (bufO s))], 0⟩ : St)) (i + 1) (s ++ fmtD (decI z) ++ [10]) (.ptr 0 2 0 0)) (fun x => if x = 1 then k2 else x) (by omega) (by rw [hI]; exact ⟨i + 1, (s ++ fmtD (decI z) ++ [10]), (.ptr 0 2 0 0), by omega, rfl, ⟨by rw [hst, hd], .inr rfl⟩, rfl⟩) ⟨rfl, ?_, ?_, ?_, by simp⟩
      · simp [leT, ltV, lt1, ren, ren1, wrap_i64_in (n := (i : Int) + 1) (by omega) (by omega), hi1, hj3, hj4]
      · simp [leO, lt1, ren1, hi1, hj3, hj4]
      · (simp; try omega)
    | false =>
      have hd : disW z = 46 :: 119 :: 111 :: 114 :: 100 :: 32 :: 48 :: 120 :: (List.replicate (8 - (hexF 8 z.toNat).length) 48 ++ hexF 8 z.toNat) := by
        unfold disW; rw [if_neg (by rw [hv]; decide)]; simp [wordS, hexT, hex8]
      have hz64 : IntKind.u64.wrap z = ((z.toNat : Nat) : Int) := by rw [IntKind.wrap_u64]; omega
      obtain ⟨_, _, l1, l2⟩ := hexF_facts 8 z.toNat (by omega) (by simp; omega)
      have hw8 : IntKind.i64.wrap (8 - ((hexF 8 z.toNat).length : Int)) = ((8 - (hexF 8 z.toNat).length : Nat) : Int) := by rw [wrap_i64_in (by omega) (by omega)]; omega
      rw [hd] at hzl
      simp only [List.length_append, List.length_cons, List.length_nil, List.length_replicate] at hzl
      refine awp_cond rfl (fun h => by simp at h) (fun _ => ?_)
      repeat (first | (with_reducible first | refine awp_seqK fun K hK => ?_ | refine awp_block ?_) | ((with_reducible first | refine awp_region (by kernel_rfl) ?_ | refine gcall_tt ?_ | refine gcall_ff ?_ | refine gcall_tf ?_ | refine gcall_ft ?_ | refine awp_skip ?_ | refine awp_exit ?_); simp [hz64]) | ((repeat ((fail_if_success ((with_reducible refine hK _ ?_))); clear hK)); (with_reducible refine hK _ ?_); clear hK) | refine And.intro (by first | omega | assumption | grind) ?_)
      first | refine .inl ⟨0, _, fmt_ok z.toNat (by omega), ?_⟩ | refine .inl ⟨0, _, Meets.wk (fmt_ok z.toNat (by omega)) (by simp), ?_⟩ | refine ⟨0, _, fmt_ok z.toNat (by omega), ?_⟩ | refine ⟨0, _, Meets.wk (fmt_ok z.toNat (by omega)) (by simp), ?_⟩
      simp [aftC, aftE]
      repeat (first | (with_reducible first | refine awp_seqK fun K hK => ?_ | refine awp_block ?_) | ((with_reducible first | refine awp_region (by kernel_rfl) ?_ | refine gcall_tt ?_ | refine gcall_ff ?_ | refine gcall_tf ?_ | refine gcall_ft ?_ | refine awp_skip ?_ | refine awp_exit ?_); simp [hw8]) | ((repeat ((fail_if_success ((with_reducible refine hK _ ?_))); clear hK)); (with_reducible refine hK _ ?_); clear hK) | refine And.intro (by first | omega | assumption | grind) ?_)
      first | refine .inl ⟨0, _, rep_ok (8 - (hexF 8 z.toNat).length) (by omega), ?_⟩ | refine .inl ⟨0, _, Meets.wk (rep_ok (8 - (hexF 8 z.toNat).length) (by omega)) (by simp), ?_⟩ | refine ⟨0, _, rep_ok (8 - (hexF 8 z.toNat).length) (by omega), ?_⟩ | refine ⟨0, _, Meets.wk (rep_ok (8 - (hexF 8 z.toNat).length) (by omega)) (by simp), ?_⟩
      simp [aftC, aftE]
      repeat (first | (with_reducible first | refine awp_seqK fun K hK => ?_ | refine awp_block ?_) | ((with_reducible first | refine awp_region (by kernel_rfl) ?_ | refine gcall_tt ?_ | refine gcall_ff ?_ | refine gcall_tf ?_ | refine gcall_ft ?_ | refine awp_skip ?_ | refine awp_exit ?_); simp) | ((repeat ((fail_if_success ((with_reducible refine hK _ ?_))); clear hK)); (with_reducible refine hK _ ?_); clear hK) | refine And.intro (by first | omega | assumption | grind) ?_)
      refine .inr ((wstr_ok 0 1 c s (46 :: 119 :: 111 :: 114 :: 100 :: 32 :: 48 :: 120 :: (List.replicate (8 - (hexF 8 z.toNat).length) 48 ++ hexF 8 z.toNat)) (by simp [lookO]) (by simp [lookO]) hc (by decide) (by decide) (by decide) (by simp only [List.length_append, List.length_cons, List.length_replicate]; omega)).mono fun r nx' ob' hp => ?_)
      obtain ⟨rfl, k, hk1, hk2, hk3, hk4, hk5⟩ := hp
      repeat (first | (with_reducible first | refine awp_seqK fun K hK => ?_ | refine awp_block ?_) | ((with_reducible first | refine awp_region (by kernel_rfl) ?_ | refine gcall_tt ?_ | refine gcall_ff ?_ | refine gcall_tf ?_ | refine gcall_ft ?_ | refine awp_skip ?_ | refine awp_exit ?_); simp) | ((repeat ((fail_if_success ((with_reducible refine hK _ ?_))); clear hK)); (with_reducible refine hK _ ?_); clear hK) | refine And.intro (by first | omega | assumption | grind) ?_)
      refine .inr ((wbyte_ok 0 k (.ptr 0 2 0 0) (s ++ (46 :: 119 :: 111 :: 114 :: 100 :: 32 :: 48 :: 120 :: (List.replicate (8 - (hexF 8 z.toNat).length) 48 ++ hexF 8 z.toNat))) 10 hk4 hk3 (.inr rfl) (by omega) hk2 (by omega) (by simp only [List.length_append, List.length_cons, List.length_replicate]; omega)).mono fun r nx' ob' hp => ?_)
      obtain ⟨rfl, k2, hj1, hj2, hj3, hj4, hj5⟩ := hp
      repeat (first | (with_reducible first | refine awp_seqK fun K hK => ?_ | refine awp_block ?_) | ((with_reducible first | refine awp_region (by kernel_rfl) ?_ | refine gcall_tt ?_ | refine gcall_ff ?_ | refine gcall_tf ?_ | refine gcall_ft ?_ | refine awp_skip ?_ | refine awp_exit ?_); simp [hi1]) | ((repeat ((fail_if_success ((with_reducible refine hK _ ?_))); clear hK)); (with_reducible refine hK _ ?_); clear hK) | refine And.intro (by first | omega | assumption | grind) ?_)
      refine again_of (ws.length - (i + 1)) ((fun (i : Nat) (s : Str) (c : V) => (⟨38, [(11, .int .i64 i), (10, .int .i64 ws.length), (9, .sl 1 false (ints .u32 ws)), (3, .ptr 0 2 0 0)], 2, [(0, some (bldO c (.own 1))), (1, some (bufO s))], 0⟩ : St)) (i + 1) (s ++ (46 :: 119 :: 111 :: 114 :: 100 :: 32 :: 48 :: 120 :: (List.replicate (8 - (hexF 8 z.toNat).length) 48 ++ hexF 8 z.toNat)) ++ [10]) (.ptr 0 2 0 0)) (fun x => if x = 1 then k2 else x) (by omega) (by rw [hI]; exact ⟨i + 1, (s ++ (46 :: 119 :: 111 :: 114 :: 100 :: 32 :: 48 :: 120 :: (List.replicate (8 - (hexF 8 z.toNat).length) 48 ++ hexF 8 z.toNat)) ++ [10]), (.ptr 0 2 0 0), by omega, rfl, ⟨by rw [hst, hd], .inr rfl⟩, rfl⟩) ⟨rfl, ?_, ?_, ?_, by simp⟩
      · simp [leT, ltV, lt1, ren, ren1, wrap_i64_in (n := (i : Int) + 1) (by omega) (by omega), hi1, hj3, hj4]
      · simp [leO, lt1, ren1, hi1, hj3, hj4]
      · (simp; try omega)
  · have hil' : i = ws.length := by omega
    subst hil'
    rw [List.take_length] at hs
    refine awp_cond rfl (fun h => by simp at h) (fun _ => ?_)
    repeat (first | (with_reducible first | refine awp_seqK fun K hK => ?_ | refine awp_block ?_) | ((with_reducible first | refine awp_region (by kernel_rfl) ?_ | refine gcall_tt ?_ | refine gcall_ff ?_ | refine gcall_tf ?_ | refine gcall_ft ?_ | refine awp_skip ?_ | refine awp_exit ?_); simp) | ((repeat ((fail_if_success ((with_reducible refine hK _ ?_))); clear hK)); (with_reducible refine hK _ ?_); clear hK) | refine And.intro (by first | omega | assumption | grind) ?_)
    refine .inr ((bstr_ok 0 1 c s (by simp [lookO]) (by simp [lookO])).mono fun r nx' ob' hp => ?_)
    obtain rfl := hp
    repeat (first | (with_reducible first | refine awp_seqK fun K hK => ?_ | refine awp_block ?_) | ((with_reducible first | refine awp_region (by kernel_rfl) ?_ | refine gcall_tt ?_ | refine gcall_ff ?_ | refine gcall_tf ?_ | refine gcall_ft ?_ | refine awp_skip ?_ | refine awp_exit ?_); simp) | ((repeat ((fail_if_success ((with_reducible refine hK _ ?_))); clear hK)); (with_reducible refine hK _ ?_); clear hK) | refine And.intro (by first | omega | assumption | grind) ?_)
    refine awp_ret ?_
    simp [hs]
end Go.Proofs.YtjlbpkokdlggiaaGreatDoor
