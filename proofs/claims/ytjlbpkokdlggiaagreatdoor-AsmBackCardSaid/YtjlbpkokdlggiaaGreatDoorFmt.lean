/- strconv.FormatUint at base 16. (Numbers of seat r2.D.) -/
import Derived.Test.YtjlbpkokdlggiaaGreatDoorAs17
namespace Go.Proofs.YtjlbpkokdlggiaaGreatDoor
open Go.Ab Go.RowKit
set_option linter.unusedSimpArgs false
set_option maxRecDepth 100000
theorem pow2_ok : Meets Tryz.prog 91 [.int .i64 16] (.bool true) := by
  refine Meets.of Tryz.func91 rfl (by kernel_rfl) rfl ?_
  simp only [Tryz.ntmps91, St.start, argT]
  repeat (first | (with_reducible first | refine awp_seqK fun K hK => ?_ | refine awp_block ?_) | ((with_reducible first | refine awp_region (by kernel_rfl) ?_ | refine gcall_tt ?_ | refine gcall_ff ?_ | refine gcall_tf ?_ | refine gcall_ft ?_ | refine awp_skip ?_ | refine awp_exit ?_); simp) | ((repeat ((fail_if_success ((with_reducible refine hK _ ?_))); clear hK)); (with_reducible refine hK _ ?_); clear hK) | refine And.intro (by first | omega | assumption | grind) ?_)
  refine awp_ret ?_
  simp
  try decide
theorem tz64_ok : Meets Tryz.prog 108 [.int .u64 16] (.int .i64 4) := by
  have hz : (IntKind.u64.wrap (IntKind.u64.wrap ↑(16 % 2 ^ IntKind.u64.bits &&& (IntKind.u64.wrap (-16) % 2 ^ IntKind.u64.bits).toNat) * 285870213051353865)).fdiv (2 ^ min 58 IntKind.u64.bits) = 15 := by decide
  have hl : bruTab.length = 64 := rfl
  have hb : bruTab[15]? = some 4 := rfl
  refine Meets.of Tryz.func108 rfl (by kernel_rfl) rfl ?_
  simp only [Tryz.ntmps108, St.start, argT]
  repeat (first | (with_reducible first | refine awp_seqK fun K hK => ?_ | refine awp_block ?_) | ((with_reducible first | refine awp_region (by kernel_rfl) ?_ | refine gcall_tt ?_ | refine gcall_ff ?_ | refine gcall_tf ?_ | refine gcall_ft ?_ | refine awp_skip ?_ | refine awp_exit ?_); simp) | ((repeat ((fail_if_success ((with_reducible refine hK _ ?_))); clear hK)); (with_reducible refine hK _ ?_); clear hK) | refine And.intro (by first | omega | assumption | grind) ?_)
  refine awp_cond rfl (fun h => by simp at h) (fun _ => ?_)
  repeat (first | (with_reducible first | refine awp_seqK fun K hK => ?_ | refine awp_block ?_) | ((with_reducible first | refine awp_region (by kernel_rfl) ?_ | refine gcall_tt ?_ | refine gcall_ff ?_ | refine gcall_tf ?_ | refine gcall_ft ?_ | refine awp_skip ?_ | refine awp_exit ?_); simp [glo_4, hz, hl, hb]) | ((repeat ((fail_if_success ((with_reducible refine hK _ ?_))); clear hK)); (with_reducible refine hK _ ?_); clear hK) | refine And.intro (by first | omega | assumption | grind) ?_)
  refine awp_ret ?_
  simp
  try rfl
theorem tz_ok : Meets Tryz.prog 92 [.int .u64 16] (.int .i64 4) := by
  refine Meets.of Tryz.func92 rfl (by kernel_rfl) rfl ?_
  simp only [Tryz.ntmps92, St.start, argT]
  repeat (first | (with_reducible first | refine awp_seqK fun K hK => ?_ | refine awp_block ?_) | ((with_reducible first | refine awp_region (by kernel_rfl) ?_ | refine gcall_tt ?_ | refine gcall_ff ?_ | refine gcall_tf ?_ | refine gcall_ft ?_ | refine awp_skip ?_ | refine awp_exit ?_); simp) | ((repeat ((fail_if_success ((with_reducible refine hK _ ?_))); clear hK)); (with_reducible refine hK _ ?_); clear hK) | refine And.intro (by first | omega | assumption | grind) ?_)
  refine awp_cond rfl (fun h => by simp at h) (fun _ => ?_)
  repeat (first | (with_reducible first | refine awp_seqK fun K hK => ?_ | refine awp_block ?_) | ((with_reducible first | refine awp_region (by kernel_rfl) ?_ | refine gcall_tt ?_ | refine gcall_ff ?_ | refine gcall_tf ?_ | refine gcall_ft ?_ | refine awp_skip ?_ | refine awp_exit ?_); simp) | ((repeat ((fail_if_success ((with_reducible refine hK _ ?_))); clear hK)); (with_reducible refine hK _ ?_); clear hK) | refine And.intro (by first | omega | assumption | grind) ?_)
  first | refine .inl ⟨0, _, tz64_ok, ?_⟩ | refine .inl ⟨0, _, Meets.wk (tz64_ok) (by simp), ?_⟩ | refine ⟨0, _, tz64_ok, ?_⟩ | refine ⟨0, _, Meets.wk (tz64_ok) (by simp), ?_⟩
  simp [aftC, aftE]
  repeat (first | (with_reducible first | refine awp_seqK fun K hK => ?_ | refine awp_block ?_) | ((with_reducible first | refine awp_region (by kernel_rfl) ?_ | refine gcall_tt ?_ | refine gcall_ff ?_ | refine gcall_tf ?_ | refine gcall_ft ?_ | refine awp_skip ?_ | refine awp_exit ?_); simp) | ((repeat ((fail_if_success ((with_reducible refine hK _ ?_))); clear hK)); (with_reducible refine hK _ ?_); clear hK) | refine And.intro (by first | omega | assumption | grind) ?_)
  refine awp_ret ?_
  simp
theorem hexF_app : ∀ (k n : Nat), n < 16 ^ (k + 1) → 16 ≤ n → hexF (k + 1) n = hexF k (n / 16) ++ [hx (n % 16)] := by
  intro k n _ h
  conv => lhs; unfold hexF
  rw [if_neg (by omega)]
def dg36 : Str := [48, 49, 50, 51, 52, 53, 54, 55, 56, 57, 97, 98, 99, 100, 101, 102, 103, 104, 105, 106, 107, 108, 109, 110, 111, 112, 113, 114, 115, 116, 117, 118, 119, 120, 121, 122]
theorem dg_at : ∀ d < 16, dg36.getD d 0 = hx d := by decide
/-- bytes as cells -/
def byt (l : Str) : List V := l.map fun (c : UInt8) => V.int .u8 (c.toNat : Int)
def isInts (cs : List V) : Prop := ∀ c ∈ cs, ∃ z : Int, c = .int .u8 z
theorem ints_own {cs : List V} (h : isInts cs) : ownIds cs = [] := by
  induction cs with
  | nil => rfl
  | cons c cs ih =>
    obtain ⟨z, rfl⟩ := h c (List.mem_cons_self ..)
    simpa [ownIds] using ih fun d hd => h d (List.mem_cons_of_mem _ hd)
theorem ints_pur {cs : List V} (h : isInts cs) (ob : List (Nat × Option Ob)) : cs.map (pur1 ob) = cs := by
  induction cs with
  | nil => rfl
  | cons c cs ih =>
    obtain ⟨z, rfl⟩ := h c (List.mem_cons_self ..)
    simp [pur1, ih fun d hd => h d (List.mem_cons_of_mem _ hd)]
theorem ints_ren {cs : List V} (h : isInts cs) {ρ : Nat → Nat} : cs.map (ren1 ρ) = cs := by
  induction cs with
  | nil => rfl
  | cons c cs ih =>
    obtain ⟨z, rfl⟩ := h c (List.mem_cons_self ..)
    simp [ren1, ih fun d hd => h d (List.mem_cons_of_mem _ hd)]
theorem ints_set {cs : List V} (h : isInts cs) (q : Nat) (z : Int) : isInts (cs.set q (.int .u8 z)) := fun c hc => by
  rcases List.mem_or_eq_of_mem_set hc with h1 | rfl
  · exact h c h1
  · exact ⟨z, rfl⟩
theorem set_drop {α : Type} (cs : List α) (q : Nat) (v : α) (h : q < cs.length) : (cs.set q v).drop q = v :: cs.drop (q + 1) := by
  rw [List.drop_eq_getElem_cons (by simpa using h)]
  simp [List.drop_set]
theorem byt_str (l : Str) : (((byt l).map fun c => [c]).map byteV) = l ∧ ∀ y ∈ ((byt l).map fun c => [c]), isByteV y := by
  refine ⟨?_, fun y hy => ?_⟩
  · induction l with
    | nil => rfl
    | cons c l ih => simpa [byt, byteV] using ih
  · simp only [byt, List.mem_map] at hy
    obtain ⟨c, ⟨d, _, rfl⟩, rfl⟩ := hy
    exact ⟨d, rfl⟩
theorem and15 (u : Nat) (hu : u < 4294967296) : IntKind.u64.wrap ((u % 2 ^ IntKind.u64.bits &&& 15 % 2 ^ IntKind.u64.bits : Nat) : Int) = ((u % 16 : Nat) : Int) := by
  have h1 : u % 2 ^ IntKind.u64.bits = u := Nat.mod_eq_of_lt (by have : (2 : Nat) ^ IntKind.u64.bits = 18446744073709551616 := by decide
                                                                 omega)
  have h2 : u &&& 15 = u % 16 := by
    have := Nat.and_two_pow_sub_one_eq_mod u 4
    simpa using this
  have h3 : 15 % 2 ^ IntKind.u64.bits = 15 := by decide
  rw [h1, h3, h2, IntKind.wrap_u64]; omega
theorem shr4 (u : Nat) : (u : Int).fdiv (2 ^ min 4 IntKind.u64.bits) = ((u / 16 : Nat) : Int) := by
  have h : (2 : Int) ^ min 4 IntKind.u64.bits = 16 := by decide
  rw [h, Int.fdiv_eq_ediv_of_nonneg _ (by decide)]; omega
theorem dg_idx (d : Nat) (h : d < 16) : dg36[d]?.getD 0 = hx d := by
  have := dg_at d h
  rwa [List.getD_eq_getElem?_getD] at this
abbrev z65 : List V := List.replicate 65 (V.int .u8 0)
theorem z65_ints : isInts z65 := fun c hc => ⟨0, List.eq_of_mem_replicate hc⟩
set_option maxHeartbeats 16000000 in
theorem fbits_ok (n : Nat) (hn : n < 4294967296) : Meets Tryz.prog 68 [.sl 0 true [], .int .u64 n, .int .i64 16, .bool false, .bool false] (.tup [.sl 0 true [], .str (hexF 8 n)]) := by
  have hw15 : IntKind.u64.wrap 15 = 15 := by decide
  refine Meets.of Tryz.func68 rfl (by kernel_rfl) rfl ?_
  simp only [Tryz.ntmps68, St.start, argT]
  repeat (first | (with_reducible first | refine awp_seqK fun K hK => ?_ | refine awp_block ?_) | ((with_reducible first | refine awp_region (by kernel_rfl) ?_ | refine gcall_tt ?_ | refine gcall_ff ?_ | refine gcall_tf ?_ | refine gcall_ft ?_ | refine awp_skip ?_ | refine awp_exit ?_); simp) | ((repeat ((fail_if_success ((with_reducible refine hK _ ?_))); clear hK)); (with_reducible refine hK _ ?_); clear hK) | refine And.intro (by first | omega | assumption | grind) ?_)
  refine awp_cond rfl (fun h => by simp at h) (fun _ => ?_)
  repeat (first | (with_reducible first | refine awp_seqK fun K hK => ?_ | refine awp_block ?_) | ((with_reducible first | refine awp_region (by kernel_rfl) ?_ | refine gcall_tt ?_ | refine gcall_ff ?_ | refine gcall_tf ?_ | refine gcall_ft ?_ | refine awp_skip ?_ | refine awp_exit ?_); simp) | ((repeat ((fail_if_success ((with_reducible refine hK _ ?_))); clear hK)); (with_reducible refine hK _ ?_); clear hK) | refine And.intro (by first | omega | assumption | grind) ?_)
  refine awp_cond rfl (fun h => by simp at h) (fun _ => ?_)
  repeat (first | (with_reducible first | refine awp_seqK fun K hK => ?_ | refine awp_block ?_) | ((with_reducible first | refine awp_region (by kernel_rfl) ?_ | refine gcall_tt ?_ | refine gcall_ff ?_ | refine gcall_tf ?_ | refine gcall_ft ?_ | refine awp_skip ?_ | refine awp_exit ?_); simp) | ((repeat ((fail_if_success ((with_reducible refine hK _ ?_))); clear hK)); (with_reducible refine hK _ ?_); clear hK) | refine And.intro (by first | omega | assumption | grind) ?_)
  first | refine .inl ⟨0, _, pow2_ok, ?_⟩ | refine .inl ⟨0, _, Meets.wk (pow2_ok) (by simp), ?_⟩ | refine ⟨0, _, pow2_ok, ?_⟩ | refine ⟨0, _, Meets.wk (pow2_ok) (by simp), ?_⟩
  simp [aftC, aftE]
  repeat (first | (with_reducible first | refine awp_seqK fun K hK => ?_ | refine awp_block ?_) | ((with_reducible first | refine awp_region (by kernel_rfl) ?_ | refine gcall_tt ?_ | refine gcall_ff ?_ | refine gcall_tf ?_ | refine gcall_ft ?_ | refine awp_skip ?_ | refine awp_exit ?_); simp) | ((repeat ((fail_if_success ((with_reducible refine hK _ ?_))); clear hK)); (with_reducible refine hK _ ?_); clear hK) | refine And.intro (by first | omega | assumption | grind) ?_)
  refine awp_cond rfl (fun _ => ?_) (fun h => by simp at h)
  repeat (first | (with_reducible first | refine awp_seqK fun K hK => ?_ | refine awp_block ?_) | ((with_reducible first | refine awp_region (by kernel_rfl) ?_ | refine gcall_tt ?_ | refine gcall_ff ?_ | refine gcall_tf ?_ | refine gcall_ft ?_ | refine awp_skip ?_ | refine awp_exit ?_); simp) | ((repeat ((fail_if_success ((with_reducible refine hK _ ?_))); clear hK)); (with_reducible refine hK _ ?_); clear hK) | refine And.intro (by first | omega | assumption | grind) ?_)
  first | refine .inl ⟨0, _, tz_ok, ?_⟩ | refine .inl ⟨0, _, Meets.wk (tz_ok) (by simp), ?_⟩ | refine ⟨0, _, tz_ok, ?_⟩ | refine ⟨0, _, Meets.wk (tz_ok) (by simp), ?_⟩
  simp [aftC, aftE]
  repeat (first | (with_reducible first | refine awp_seqK fun K hK => ?_ | refine awp_block ?_) | ((with_reducible first | refine awp_region (by kernel_rfl) ?_ | refine gcall_tt ?_ | refine gcall_ff ?_ | refine gcall_tf ?_ | refine gcall_ft ?_ | refine awp_skip ?_ | refine awp_exit ?_); simp [hw15]) | ((repeat ((fail_if_success ((with_reducible refine hK _ ?_))); clear hK)); (with_reducible refine hK _ ?_); clear hK) | refine And.intro (by first | omega | assumption | grind) ?_)
  obtain ⟨I, hI⟩ : ∃ I : Nat → St → Prop, I = (fun kk ss => ∃ (i : Nat) (u q : Nat) (cs : List V) (tl : Str), i ≤ 8 ∧ kk = 8 - i ∧ (hexF 8 n = hexF (8 - i) u ++ tl ∧ u < 16 ^ (8 - i) ∧ u < 4294967296 ∧ q + i = 65 ∧ i ≤ 7 ∧ cs.length = 65 ∧ isInts cs ∧ cs.drop q = byt tl) ∧ ss = ⟨102, [(1, .int .u64 u), (13, .int .i64 q), (15, .int .u64 16), (16, .int .u64 15), (12, .ptr 0 65 0 0), (14, .int .u64 4), (3, .bool false), (4, .bool false), (10, .sl 0 true [])], 3, [(0, some ⟨158, 65, true, false, [cs]⟩)], 0⟩) := ⟨_, rfl⟩
  refine awp_loopA I (k0 := 8) (st0 := (fun (i : Nat) (u q : Nat) (cs : List V) (tl : Str) => (⟨102, [(1, .int .u64 u), (13, .int .i64 q), (15, .int .u64 16), (16, .int .u64 15), (12, .ptr 0 65 0 0), (14, .int .u64 4), (3, .bool false), (4, .bool false), (10, .sl 0 true [])], 3, [(0, some ⟨158, 65, true, false, [cs]⟩)], 0⟩ : St)) 0 n 65 z65 []) (ρ0 := id) ⟨rfl, by simp [leT, ltV, lt1, ren, ren1], by simp [leO, lt1, ren1], by simp, by simp⟩ (by rw [hI]; exact ⟨0, n, 65, z65, [], by simp, by simp, ⟨by simp, by simpa using hn, hn, rfl, by omega, rfl, z65_ints, rfl⟩, rfl⟩) ?_
  intro kk ss hIk _
  rw [hI] at hIk
  obtain ⟨i, u, q, cs, tl, hi, rfl, hx, rfl⟩ := hIk
  obtain ⟨x1, x2, x3, x4, x5, x6, x7, x8⟩ := hx
  have hdl : dg36.length = 36 := rfl
  have hq1 : IntKind.i64.wrap ((q : Int) - 1) = ((q - 1 : Nat) : Int) := by rw [wrap_i64_in (by omega) (by omega)]; omega
  have hq2 : q - 1 < 65 := by omega
  have hq2' : ((q - 1 : Nat) : Int) < 65 := by omega
  have hq3 : q - 1 + 1 ≤ 65 := by omega
  have hio := ints_own x7
  repeat (first | (with_reducible first | refine awp_seqK fun K hK => ?_ | refine awp_block ?_) | ((with_reducible first | refine awp_region (by kernel_rfl) ?_ | refine gcall_tt ?_ | refine gcall_ff ?_ | refine gcall_tf ?_ | refine gcall_ft ?_ | refine awp_skip ?_ | refine awp_exit ?_); simp) | ((repeat ((fail_if_success ((with_reducible refine hK _ ?_))); clear hK)); (with_reducible refine hK _ ?_); clear hK) | refine And.intro (by first | omega | assumption | grind) ?_)
  refine awp_cond rfl (fun h => ?_) (fun h => ?_)
  · simp at h
    have hm := and15 u x3
    have hm2 : u % 16 < 36 := by omega
    have hdg := dg_idx (u % 16) (by omega)
    simp only [dg36] at hdg
    have hm2' : ((u % 16 : Nat) : Int) < 36 := by omega
    have hm3 : (0 : Int) ≤ ((u % 16 : Nat) : Int) := by omega
    have hsh := shr4 u
    repeat (first | (with_reducible first | refine awp_seqK fun K hK => ?_ | refine awp_block ?_) | ((with_reducible first | refine awp_region (by kernel_rfl) ?_ | refine gcall_tt ?_ | refine gcall_ff ?_ | refine gcall_tf ?_ | refine gcall_ft ?_ | refine awp_skip ?_ | refine awp_exit ?_); simp [hm, hm2, hm2', hm3, hdg, hq1, hq2, hq2', hq3, x6, hsh]) | ((repeat ((fail_if_success ((with_reducible refine hK _ ?_))); clear hK)); (with_reducible refine hK _ ?_); clear hK) | refine And.intro (by first | omega | assumption | grind) ?_)
    have hi7 : i + 1 ≤ 7 := by
      rcases Nat.lt_or_ge i 7 with h7 | h7
      · omega
      · have : i = 7 := by omega
        subst this
        simp at x2
        omega
    have hhf := hexF_app (8 - (i + 1)) u (by rw [show 8 - (i + 1) + 1 = 8 - i by omega]; exact x2) (by omega)
    rw [show 8 - (i + 1) + 1 = 8 - i by omega] at hhf
    have hren : cs.map (ren1 id) = cs := ints_ren x7
    have htn : ((u : Int) % 16).toNat = u % 16 := by omega
    have hset := set_drop cs (q - 1) (V.int .u8 ((hx (u % 16)).toNat : Int)) (by omega)
    rw [show q - 1 + 1 = q by omega, x8] at hset
    have hx16 : u / 16 < 16 ^ (8 - (i + 1)) := by
      have e : 16 ^ (8 - i) = 16 ^ (8 - (i + 1)) * 16 := by rw [← Nat.pow_succ]; congr 1; omega
      rw [e] at x2
      omega
    refine again_of (8 - (i + 1)) ((fun (i : Nat) (u q : Nat) (cs : List V) (tl : Str) => ((⟨102, [(1, .int .u64 u), (13, .int .i64 q), (15, .int .u64 16), (16, .int .u64 15), (12, .ptr 0 65 0 0), (14, .int .u64 4), (3, .bool false), (4, .bool false), (10, .sl 0 true [])], 3, [(0, some ⟨158, 65, true, false, [cs]⟩)], 0⟩ : St) : St)) (i + 1) (u / 16) (q - 1) (cs.set (q - 1) (.int .u8 (hx (u % 16)).toNat)) (hx (u % 16) :: tl)) id (by omega) (by rw [hI]; exact ⟨i + 1, (u / 16), (q - 1), (cs.set (q - 1) (.int .u8 (hx (u % 16)).toNat)), (hx (u % 16) :: tl), by omega, rfl, ⟨by rw [x1, hhf, List.append_assoc]; rfl, hx16, by omega, by omega, by omega, by simp [x6], ints_set x7 _ _, hset⟩, rfl⟩) ⟨rfl, ?_, ?_, ?_, by simp⟩
    · simp [leT, ltV, lt1, ren, ren1, hq1, hsh]
    · simp [leO, hdg, htn, hren, ren1]
      exact fun c hc => by
        obtain ⟨z, rfl⟩ := ints_set x7 _ _ c hc
        trivial
    · (simp; try omega)
  · simp at h
    have hdg := dg_idx u (by omega)
    simp only [dg36] at hdg
    have hu36' : (u : Int) < 36 := by omega
    have hml : 65 ≤ maxLen := by simp [maxLen]
    have hset := set_drop cs (q - 1) (V.int .u8 ((hx u).toNat : Int)) (by omega)
    rw [show q - 1 + 1 = q by omega, x8] at hset
    have hhf : hexF (8 - i) u = [hx u] := by
      rw [show 8 - i = (7 - i) + 1 by omega]
      conv => lhs; unfold hexF
      rw [if_pos (by omega)]
    have y1 := ints_set x7 (q - 1) ((hx u).toNat : Int)
    have y2 : (cs.set (q - 1) (V.int .u8 ((hx u).toNat : Int))).length = 65 := by simp [x6]
    generalize hcs2 : cs.set (q - 1) (V.int .u8 ((hx u).toNat : Int)) = cs2 at hset y1 y2
    have y3 := ints_own y1
    have y4 : ∀ ob, cs2.map ((fun c => [c]) ∘ pur1 ob) = cs2.map fun c => [c] := fun ob => by rw [← List.map_map, ints_pur y1]
    have y5 : ((cs2.map fun c => [c]).drop (q - 1)) = (byt (hx u :: tl)).map fun c => [c] := by rw [← List.map_drop, hset]; rfl
    obtain ⟨b1, b2⟩ := byt_str (hx u :: tl)
    have hres : hexF 8 n = hx u :: tl := by rw [x1, hhf]; rfl
    rw [← hres] at b1 b2 y5
    generalize (byt (hexF 8 n)).map (fun c => [c]) = ys at y5 b1 b2
    have hq4 : ((q - 1 : Nat) : Int) ≤ 65 := by omega
    repeat (first | (with_reducible first | refine awp_seqK fun K hK => ?_ | refine awp_block ?_) | ((with_reducible first | refine awp_region (by kernel_rfl) ?_ | refine gcall_tt ?_ | refine gcall_ff ?_ | refine gcall_tf ?_ | refine gcall_ft ?_ | refine awp_skip ?_ | refine awp_exit ?_); simp [hdg, hq1, hq2, hq2', hq3, x6, hu36', hcs2]) | ((repeat ((fail_if_success ((with_reducible refine hK _ ?_))); clear hK)); (with_reducible refine hK _ ?_); clear hK) | refine And.intro (by first | omega | assumption | grind) ?_)
    refine awp_cond rfl (fun h => by simp at h) (fun _ => ?_)
    repeat (first | (with_reducible first | refine awp_seqK fun K hK => ?_ | refine awp_block ?_) | ((with_reducible first | refine awp_region (by kernel_rfl) ?_ | refine gcall_tt ?_ | refine gcall_ff ?_ | refine gcall_tf ?_ | refine gcall_ft ?_ | refine awp_skip ?_ | refine awp_exit ?_); simp) | ((repeat ((fail_if_success ((with_reducible refine hK _ ?_))); clear hK)); (with_reducible refine hK _ ?_); clear hK) | refine And.intro (by first | omega | assumption | grind) ?_)
    refine awp_cond rfl (fun h => by simp at h) (fun _ => ?_)
    repeat (first | (with_reducible first | refine awp_seqK fun K hK => ?_ | refine awp_block ?_) | ((with_reducible first | refine awp_region (by kernel_rfl) ?_ | refine gcall_tt ?_ | refine gcall_ff ?_ | refine gcall_tf ?_ | refine gcall_ft ?_ | refine awp_skip ?_ | refine awp_exit ?_); simp [hml, hq4, y2, y3, y4, y5, b1, b2]) | ((repeat ((fail_if_success ((with_reducible refine hK _ ?_))); clear hK)); (with_reducible refine hK _ ?_); clear hK) | refine And.intro (by first | omega | assumption | grind) ?_)
    refine awp_ret ?_
    simp
theorem fmt68_ok (n : Nat) (hn : n < 4294967296) : Meets Tryz.prog 44 [.int .u64 n, .int .i64 16] (.str (hexF 8 n)) := by
  have h := fbits_ok n hn
  refine Meets.of Tryz.func44 rfl (by kernel_rfl) rfl ?_
  simp only [Tryz.ntmps44, St.start, argT]
  repeat (first | (with_reducible first | refine awp_seqK fun K hK => ?_ | refine awp_block ?_) | ((with_reducible first | refine awp_region (by kernel_rfl) ?_ | refine gcall_tt ?_ | refine gcall_ff ?_ | refine gcall_tf ?_ | refine gcall_ft ?_ | refine awp_skip ?_ | refine awp_exit ?_); simp) | ((repeat ((fail_if_success ((with_reducible refine hK _ ?_))); clear hK)); (with_reducible refine hK _ ?_); clear hK) | refine And.intro (by first | omega | assumption | grind) ?_)
  refine awp_cond rfl (fun h => by simp at h) (fun _ => ?_)
  repeat (first | (with_reducible first | refine awp_seqK fun K hK => ?_ | refine awp_block ?_) | ((with_reducible first | refine awp_region (by kernel_rfl) ?_ | refine gcall_tt ?_ | refine gcall_ff ?_ | refine gcall_tf ?_ | refine gcall_ft ?_ | refine awp_skip ?_ | refine awp_exit ?_); simp) | ((repeat ((fail_if_success ((with_reducible refine hK _ ?_))); clear hK)); (with_reducible refine hK _ ?_); clear hK) | refine And.intro (by first | omega | assumption | grind) ?_)
  first | refine .inl ⟨0, _, h, ?_⟩ | refine .inl ⟨0, _, Meets.wk (h) (by simp), ?_⟩ | refine ⟨0, _, h, ?_⟩ | refine ⟨0, _, Meets.wk (h) (by simp), ?_⟩
  simp [aftC, aftE]
  repeat (first | (with_reducible first | refine awp_seqK fun K hK => ?_ | refine awp_block ?_) | ((with_reducible first | refine awp_region (by kernel_rfl) ?_ | refine gcall_tt ?_ | refine gcall_ff ?_ | refine gcall_tf ?_ | refine gcall_ft ?_ | refine awp_skip ?_ | refine awp_exit ?_); simp) | ((repeat ((fail_if_success ((with_reducible refine hK _ ?_))); clear hK)); (with_reducible refine hK _ ?_); clear hK) | refine And.intro (by first | omega | assumption | grind) ?_)
  refine awp_ret ?_
  simp
theorem fmt_ok (n : Nat) (hn : n < 4294967296) : Meets Tryz.prog 24 [.int .u64 n, .int .i64 16] (.str (hexF 8 n)) := by
  refine Meets.of Tryz.func24 rfl (by kernel_rfl) rfl ?_
  simp only [Tryz.ntmps24, St.start, argT]
  repeat (first | (with_reducible first | refine awp_seqK fun K hK => ?_ | refine awp_block ?_) | ((with_reducible first | refine awp_region (by kernel_rfl) ?_ | refine gcall_tt ?_ | refine gcall_ff ?_ | refine gcall_tf ?_ | refine gcall_ft ?_ | refine awp_skip ?_ | refine awp_exit ?_); simp) | ((repeat ((fail_if_success ((with_reducible refine hK _ ?_))); clear hK)); (with_reducible refine hK _ ?_); clear hK) | refine And.intro (by first | omega | assumption | grind) ?_)
  first | refine .inl ⟨0, _, fmt68_ok n hn, ?_⟩ | refine .inl ⟨0, _, Meets.wk (fmt68_ok n hn) (by simp), ?_⟩ | refine ⟨0, _, fmt68_ok n hn, ?_⟩ | refine ⟨0, _, Meets.wk (fmt68_ok n hn) (by simp), ?_⟩
  simp [aftC, aftE]
  repeat (first | (with_reducible first | refine awp_seqK fun K hK => ?_ | refine awp_block ?_) | ((with_reducible first | refine awp_region (by kernel_rfl) ?_ | refine gcall_tt ?_ | refine gcall_ff ?_ | refine gcall_tf ?_ | refine gcall_ft ?_ | refine awp_skip ?_ | refine awp_exit ?_); simp) | ((repeat ((fail_if_success ((with_reducible refine hK _ ?_))); clear hK)); (with_reducible refine hK _ ?_); clear hK) | refine And.intro (by first | omega | assumption | grind) ?_)
  refine awp_ret ?_
  simp
end Go.Proofs.YtjlbpkokdlggiaaGreatDoor
