/- IndexAny of any string. (Numbers of seat r2.D.) -/
import Derived.Test.YtjlbpkokdlggiaaDoorAny1
import Derived.Scope
namespace Go.Ab
open Go.RowKit
def noG (Q : Exit → St → Prop) : Exit → St → Prop
  | .goto _, _ => False
  | e, s => Q e s
@[simp] theorem noG_ret {Q : Exit → St → Prop} {s : St} : noG Q .ret s = Q .ret s := rfl
@[simp] theorem noG_normal {Q : Exit → St → Prop} {s : St} : noG Q .normal s = Q .normal s := rfl
@[simp] theorem noG_exit {Q : Exit → St → Prop} {s : St} {k : Nat} : noG Q (.exit k) s = Q (.exit k) s := rfl
theorem awp_scope [Glo] {P : Program} {c : Code} {Q : Exit → St → Prop} {st : St} (h : awp P c (noG Q) st) : awp P (.scope c) Q st := fun base Xa w0 a w hR =>
  wp_scope_straight (wp_mono (h base Xa w0 a w hR) fun e a' w' ⟨s, h1, h2, h3⟩ => by
    cases e with
    | goto l => exact h2.elim
    | _ => exact ⟨s, h1, h2, h3⟩)
end Go.Ab
namespace Go.Proofs.YtjlbpkokdlggiaaDoor
open Go.Ab Go.RowKit
set_option linter.unusedSimpArgs false
set_option maxRecDepth 100000
def seps : Str := [32, 44, 58, 40, 41]
theorem idxb_ok (s : Str) (c : UInt8) : Meets Tryd.prog 134 [.str s, .int .u8 c.toNat] (.int .i64 (Lib.indexByte s c)) := by
  refine ⟨by kernel_rfl, fun w Xa vals M hXa hs hrr => ?_⟩
  obtain rfl := vals2 hs (R_str (hrr 0 _ rfl)) (R_int (hrr 1 _ rfl))
  refine (Any.strings_IndexByte { crLays with } ⟨s.toArray⟩ (c.toNat : Int) w).mono ?_
  rintro e w' ⟨rfl, rfl⟩
  refine ⟨_, rfl, Below.refl _ _, fun M n hM => ⟨?_, fun id o ho => ?_, fun id id' o o' g ho => ?_⟩⟩
  · have hcc : ((c.toNat : Int).toNat.toUInt8) = c := by simp
    rw [bytes_list, hcc]
    exact .int _ _ _
  · simp [V.fcells, V.cells, obsL, lookO] at ho
  · simp [V.fcells, V.cells, obsL, lookO] at ho
theorem irune_lo (s : Str) (c : UInt8) (hc : c.toNat < 128) : Meets Tryd.prog 116 [.str s, .int .i32 c.toNat] (.int .i64 (Lib.indexByte s c)) := by
  refine ⟨by kernel_rfl, fun w Xa vals M hXa hs hrr => ?_⟩
  obtain rfl := vals2 hs (R_str (hrr 0 _ rfl)) (R_int (hrr 1 _ rfl))
  refine (Any.strings_IndexRune_ascii { crLays with } ⟨s.toArray⟩ (c.toNat : Int) w (by omega) (by omega)).mono ?_
  rintro e w' ⟨rfl, rfl⟩
  refine ⟨_, rfl, Below.refl _ _, fun M n hM => ⟨?_, fun id o ho => ?_, fun id id' o o' g ho => ?_⟩⟩
  · have hcc : ((c.toNat : Int).toNat.toUInt8) = c := by simp
    rw [bytes_list, hcc]
    exact .int _ _ _
  · simp [V.fcells, V.cells, obsL, lookO] at ho
  · simp [V.fcells, V.cells, obsL, lookO] at ho
theorem vrune_ok (r : Int) (h0 : 128 ≤ r) (hv : Utf8.valid r = true) : Meets Tryd.prog 135 [.int .i32 r] (.bool true) := by
  simp only [Utf8.valid, Bool.or_eq_true, Bool.and_eq_true, decide_eq_true_eq] at hv
  refine Meets.of Tryd.func135 rfl (by kernel_rfl) rfl ?_
  simp only [Tryd.ntmps135, St.start, argT]
  repeat (first | (with_reducible first | refine awp_seqK fun K hK => ?_ | refine awp_block ?_) | ((with_reducible first | refine awp_region (by kernel_rfl) ?_ | refine gcall_tt ?_ | refine gcall_ff ?_ | refine gcall_tf ?_ | refine gcall_ft ?_ | refine awp_skip ?_ | refine awp_exit ?_); simp) | ((repeat ((fail_if_success ((with_reducible refine hK _ ?_))); clear hK)); (with_reducible refine hK _ ?_); clear hK) | refine And.intro (by first | omega | assumption | grind) ?_)
  refine awp_cond rfl (fun h => ?_) (fun h => ?_)
  · repeat (first | (with_reducible first | refine awp_seqK fun K hK => ?_ | refine awp_block ?_) | ((with_reducible first | refine awp_region (by kernel_rfl) ?_ | refine gcall_tt ?_ | refine gcall_ff ?_ | refine gcall_tf ?_ | refine gcall_ft ?_ | refine awp_skip ?_ | refine awp_exit ?_); simp) | ((repeat ((fail_if_success ((with_reducible refine hK _ ?_))); clear hK)); (with_reducible refine hK _ ?_); clear hK) | refine And.intro (by first | omega | assumption | grind) ?_)
    refine awp_ret ?_
    simp
  · simp at h
    repeat (first | (with_reducible first | refine awp_seqK fun K hK => ?_ | refine awp_block ?_) | ((with_reducible first | refine awp_region (by kernel_rfl) ?_ | refine gcall_tt ?_ | refine gcall_ff ?_ | refine gcall_tf ?_ | refine gcall_ft ?_ | refine awp_skip ?_ | refine awp_exit ?_); simp) | ((repeat ((fail_if_success ((with_reducible refine hK _ ?_))); clear hK)); (with_reducible refine hK _ ?_); clear hK) | refine And.intro (by first | omega | assumption | grind) ?_)
    refine awp_cond rfl (fun h2 => ?_) (fun h2 => ?_)
    · repeat (first | (with_reducible first | refine awp_seqK fun K hK => ?_ | refine awp_block ?_) | ((with_reducible first | refine awp_region (by kernel_rfl) ?_ | refine gcall_tt ?_ | refine gcall_ff ?_ | refine gcall_tf ?_ | refine gcall_ft ?_ | refine awp_skip ?_ | refine awp_exit ?_); simp) | ((repeat ((fail_if_success ((with_reducible refine hK _ ?_))); clear hK)); (with_reducible refine hK _ ?_); clear hK) | refine And.intro (by first | omega | assumption | grind) ?_)
      refine awp_ret ?_
      simp
    · simp at h2
      omega
theorem isInt9 : isInt Tryd.prog 9 = none := by kernel_rfl
theorem seps_len : seps.length = 5 := rfl
theorem rune_ascii (s : Str) (i : Nat) (h : i < s.length) (ha : (s.getD i 0).toNat < 128) : runeAt s i = ((s.getD i 0).toNat, 1) := by
  have hs : i < (⟨s.toArray⟩ : ByteArray).size := by simpa [ByteArray.size] using h
  have e : (⟨s.toArray⟩ : ByteArray)[i] = s.getD i 0 := by
    rw [List.getD_eq_getElem?_getD, List.getElem?_eq_getElem h]
    simp [ByteArray.getElem_eq_getElem_data]
  have := decode_ascii ⟨s.toArray⟩ i hs (by rw [e]; exact ha)
  rw [e] at this
  exact this
theorem idx_high {b : UInt8} (hb : 128 ≤ b.toNat) : ∀ (s : Str), (∀ c ∈ s, c.toNat < 128) → Lib.indexByte s b = -1
  | [], _ => rfl
  | c :: s, h => by
    have hc := h c (List.mem_cons_self ..)
    have hne : (c == b) = false := by
      rw [beq_eq_false_iff_ne]; intro e; rw [e] at hc; omega
    simp only [Lib.indexByte, hne, Bool.false_eq_true, if_false, idx_high hb s fun x hx => h x (List.mem_cons_of_mem _ hx)]
    rfl
set_option maxHeartbeats 16000000 in
theorem irune_hi (r : Int) (h0 : 128 ≤ r) (h1 : r ≤ 1114111) (hv : Utf8.valid r = true) : Meets Tryd.prog 116 [.str seps, .int .i32 r] (.int .i64 (-1)) := by
  obtain ⟨m, b, he, hb, hm1, hm3⟩ := enc_high r h0 hv
  refine Meets.of Tryd.func116 rfl (by kernel_rfl) rfl ?_
  simp only [Tryd.ntmps116, St.start, argT]
  repeat (first | (with_reducible first | refine awp_seqK fun K hK => ?_ | refine awp_block ?_) | ((with_reducible first | refine awp_region (by kernel_rfl) ?_ | refine gcall_tt ?_ | refine gcall_ff ?_ | refine gcall_tf ?_ | refine gcall_ft ?_ | refine awp_skip ?_ | refine awp_exit ?_); simp) | ((repeat ((fail_if_success ((with_reducible refine hK _ ?_))); clear hK)); (with_reducible refine hK _ ?_); clear hK) | refine And.intro (by first | omega | assumption | grind) ?_)
  refine awp_cond rfl (fun h => ?_) (fun h => ?_)
  · simp at h
    omega
  repeat (first | (with_reducible first | refine awp_seqK fun K hK => ?_ | refine awp_block ?_) | ((with_reducible first | refine awp_region (by kernel_rfl) ?_ | refine gcall_tt ?_ | refine gcall_ff ?_ | refine gcall_tf ?_ | refine gcall_ft ?_ | refine awp_skip ?_ | refine awp_exit ?_); simp) | ((repeat ((fail_if_success ((with_reducible refine hK _ ?_))); clear hK)); (with_reducible refine hK _ ?_); clear hK) | refine And.intro (by first | omega | assumption | grind) ?_)
  by_cases hrr : r = 65533
  · refine awp_cond rfl (fun _ => ?_) (fun h => by simp [hrr] at h)
    repeat (first | (with_reducible first | refine awp_seqK fun K hK => ?_ | refine awp_block ?_) | ((with_reducible first | refine awp_region (by kernel_rfl) ?_ | refine gcall_tt ?_ | refine gcall_ff ?_ | refine gcall_tf ?_ | refine gcall_ft ?_ | refine awp_skip ?_ | refine awp_exit ?_); simp) | ((repeat ((fail_if_success ((with_reducible refine hK _ ?_))); clear hK)); (with_reducible refine hK _ ?_); clear hK) | refine And.intro (by first | omega | assumption | grind) ?_)
    obtain ⟨I, hI⟩ : ∃ I : Nat → St → Prop, I = (fun kk ss => ∃ (i : Nat) , i ≤ 5 ∧ kk = 5 - i ∧ (True) ∧ ss = ⟨187, [(175, .itr 0)], 1, [(0, some ⟨0, 2, false, false, [[.str seps, .int .i64 i]]⟩)], 0⟩) := ⟨_, rfl⟩
    refine awp_loopA I (k0 := 5) (st0 := (fun (i : Nat)  => (⟨187, [(175, .itr 0)], 1, [(0, some ⟨0, 2, false, false, [[.str seps, .int .i64 i]]⟩)], 0⟩ : St)) 0 ) (ρ0 := id) ⟨rfl, by simp [leT, ltV, lt1, ren, ren1], by simp [leO, lt1, ren1], by simp, by simp⟩ (by rw [hI]; exact ⟨0, by simp, by simp, trivial, rfl⟩) ?_
    intro kk ss hIk _
    rw [hI] at hIk
    obtain ⟨i, hi, rfl, hx, rfl⟩ := hIk
    by_cases hi : i < 5
    · obtain ⟨c, hc⟩ : ∃ c, c = seps.getD i 0 := ⟨_, rfl⟩
      have hca : c.toNat < 128 := by
        have : ∀ i < 5, (seps.getD i 0).toNat < 128 := by decide
        rw [hc]; exact this i hi
      have hru := rune_ascii seps i (by rw [seps_len]; exact hi) (by rw [← hc]; exact hca)
      rw [← hc] at hru
      have hnx : nxV seps i = .tup [.bool true, .int .i64 i, .int .i32 c.toNat] := by unfold nxV; rw [if_pos (by rw [seps_len]; exact hi), hru]
      have hnp : nxP seps i = i + 1 := by unfold nxP; rw [if_pos (by rw [seps_len]; exact hi), hru]
      have hne : ¬ ((c.toNat : Int) = 65533) := by omega
      repeat (first | (with_reducible first | refine awp_seqK fun K hK => ?_ | refine awp_block ?_) | ((with_reducible first | refine awp_region (by kernel_rfl) ?_ | refine gcall_tt ?_ | refine gcall_ff ?_ | refine gcall_tf ?_ | refine gcall_ft ?_ | refine awp_skip ?_ | refine awp_exit ?_); simp [hnx, hnp]) | ((repeat ((fail_if_success ((with_reducible refine hK _ ?_))); clear hK)); (with_reducible refine hK _ ?_); clear hK) | refine And.intro (by first | omega | assumption | grind) ?_)
      refine awp_cond rfl (fun _ => ?_) (fun h => by simp at h)
      repeat (first | (with_reducible first | refine awp_seqK fun K hK => ?_ | refine awp_block ?_) | ((with_reducible first | refine awp_region (by kernel_rfl) ?_ | refine gcall_tt ?_ | refine gcall_ff ?_ | refine gcall_tf ?_ | refine gcall_ft ?_ | refine awp_skip ?_ | refine awp_exit ?_); simp [hnx, hnp]) | ((repeat ((fail_if_success ((with_reducible refine hK _ ?_))); clear hK)); (with_reducible refine hK _ ?_); clear hK) | refine And.intro (by first | omega | assumption | grind) ?_)
      refine awp_cond rfl (fun h => by simp [hne] at h) (fun _ => ?_)
      repeat (first | (with_reducible first | refine awp_seqK fun K hK => ?_ | refine awp_block ?_) | ((with_reducible first | refine awp_region (by kernel_rfl) ?_ | refine gcall_tt ?_ | refine gcall_ff ?_ | refine gcall_tf ?_ | refine gcall_ft ?_ | refine awp_skip ?_ | refine awp_exit ?_); simp) | ((repeat ((fail_if_success ((with_reducible refine hK _ ?_))); clear hK)); (with_reducible refine hK _ ?_); clear hK) | refine And.intro (by first | omega | assumption | grind) ?_)
      refine again_of (5 - (i + 1)) ((fun (i : Nat)  => (⟨187, [(175, .itr 0)], 1, [(0, some ⟨0, 2, false, false, [[.str seps, .int .i64 i]]⟩)], 0⟩ : St)) (i + 1) ) (id) (by omega) (by rw [hI]; exact ⟨i + 1, by omega, rfl, trivial, rfl⟩) ⟨rfl, ?_, ?_, ?_, by simp⟩
      · simp [leT, ltV, lt1, ren, ren1, wrap_i64_in (n := (i : Int) + 1) (by omega) (by omega), hnp]
      · simp [leO, lt1, ren1, hnp]
      · (simp; try omega)
    · have hil : i = 5 := by omega
      subst hil
      have hnx : nxV seps 5 = .tup [.bool false] := by unfold nxV; rw [if_neg (by decide)]
      have hnp : nxP seps 5 = 5 := by unfold nxP; rw [if_neg (by decide)]
      repeat (first | (with_reducible first | refine awp_seqK fun K hK => ?_ | refine awp_block ?_) | ((with_reducible first | refine awp_region (by kernel_rfl) ?_ | refine gcall_tt ?_ | refine gcall_ff ?_ | refine gcall_tf ?_ | refine gcall_ft ?_ | refine awp_skip ?_ | refine awp_exit ?_); simp [hnx, hnp]) | ((repeat ((fail_if_success ((with_reducible refine hK _ ?_))); clear hK)); (with_reducible refine hK _ ?_); clear hK) | refine And.intro (by first | omega | assumption | grind) ?_)
      refine awp_cond rfl (fun h => by simp at h) (fun _ => ?_)
      repeat (first | (with_reducible first | refine awp_seqK fun K hK => ?_ | refine awp_block ?_) | ((with_reducible first | refine awp_region (by kernel_rfl) ?_ | refine gcall_tt ?_ | refine gcall_ff ?_ | refine gcall_tf ?_ | refine gcall_ft ?_ | refine awp_skip ?_ | refine awp_exit ?_); simp) | ((repeat ((fail_if_success ((with_reducible refine hK _ ?_))); clear hK)); (with_reducible refine hK _ ?_); clear hK) | refine And.intro (by first | omega | assumption | grind) ?_)
      refine awp_ret ?_
      simp
  · refine awp_cond rfl (fun h => by simp [hrr] at h) (fun _ => ?_)
    repeat (first | (with_reducible first | refine awp_seqK fun K hK => ?_ | refine awp_block ?_) | ((with_reducible first | refine awp_region (by kernel_rfl) ?_ | refine gcall_tt ?_ | refine gcall_ff ?_ | refine gcall_tf ?_ | refine gcall_ft ?_ | refine awp_skip ?_ | refine awp_exit ?_); simp) | ((repeat ((fail_if_success ((with_reducible refine hK _ ?_))); clear hK)); (with_reducible refine hK _ ?_); clear hK) | refine And.intro (by first | omega | assumption | grind) ?_)
    first | refine .inl ⟨0, _, vrune_ok r h0 hv, ?_⟩ | refine .inl ⟨0, _, Meets.wk (vrune_ok r h0 hv) (by simp), ?_⟩ | refine ⟨0, _, vrune_ok r h0 hv, ?_⟩ | refine ⟨0, _, Meets.wk (vrune_ok r h0 hv) (by simp), ?_⟩
    simp [aftC, aftE]
    repeat (first | (with_reducible first | refine awp_seqK fun K hK => ?_ | refine awp_block ?_) | ((with_reducible first | refine awp_region (by kernel_rfl) ?_ | refine gcall_tt ?_ | refine gcall_ff ?_ | refine gcall_tf ?_ | refine gcall_ft ?_ | refine awp_skip ?_ | refine awp_exit ?_); simp) | ((repeat ((fail_if_success ((with_reducible refine hK _ ?_))); clear hK)); (with_reducible refine hK _ ?_); clear hK) | refine And.intro (by first | omega | assumption | grind) ?_)
    refine awp_cond rfl (fun h => by simp at h) (fun _ => ?_)
    have w1 : IntKind.i64.wrap 1 = 1 := by decide
    have w2 : IntKind.i64.wrap 2 = 2 := by decide
    have w3 : IntKind.i64.wrap 3 = 3 := by decide
    have w4 : IntKind.i64.wrap 4 = 4 := by decide
    have hm : (∃ a, m = [a]) ∨ (∃ a c, m = [a, c]) ∨ ∃ a c d, m = [a, c, d] := by
      match m, hm1, hm3 with
      | [a], _, _ => exact .inl ⟨a, rfl⟩
      | [a, c], _, _ => exact .inr (.inl ⟨a, c, rfl⟩)
      | [a, c, d], _, _ => exact .inr (.inr ⟨a, c, d, rfl⟩)
    have q1 : seps[1]?.getD 0 = 44 := rfl
    have q2 : seps[2]?.getD 0 = 58 := rfl
    have q3 : seps[3]?.getD 0 = 40 := rfl
    have d1 : seps.drop 2 = [58, 40, 41] := rfl
    have d2 : seps.drop 3 = [40, 41] := rfl
    have d3 : seps.drop 4 = [41] := rfl
    have n1 : ¬ ((44 : Int) = b.toNat) := by omega
    have n2 : ¬ ((58 : Int) = b.toNat) := by omega
    have n3 : ¬ ((40 : Int) = b.toNat) := by omega
    rcases hm with ⟨a, rfl⟩ | ⟨a, c, rfl⟩ | ⟨a, c, d, rfl⟩
    · have hix := idx_high hb [58, 40, 41] (by decide)
      refine awp_scope ?_
      repeat (first | (with_reducible first | refine awp_seqK fun K hK => ?_ | refine awp_block ?_) | ((with_reducible first | refine awp_region (by kernel_rfl) ?_ | refine gcall_tt ?_ | refine gcall_ff ?_ | refine gcall_tf ?_ | refine gcall_ft ?_ | refine awp_skip ?_ | refine awp_exit ?_); simp [he, w1, isInt9]) | ((repeat ((fail_if_success ((with_reducible refine hK _ ?_))); clear hK)); (with_reducible refine hK _ ?_); clear hK) | refine And.intro (by first | omega | assumption | grind) ?_)
      obtain ⟨I, hI⟩ : ∃ I : Nat → St → Prop, I = (fun kk ss => ∃ (i : Nat) , i ≤ 1 ∧ kk = 1 - i ∧ (True) ∧ ss = ⟨187, [(9, .int .i64 1), (10, .int .i64 0), (0, .str seps), (7, .str [a, b]), (8, .int .i64 1), (1, .int .i32 r)], 1, [], 0⟩) := ⟨_, rfl⟩
      refine awp_loopA I (k0 := 1) (st0 := (fun (i : Nat)  => (⟨187, [(9, .int .i64 1), (10, .int .i64 0), (0, .str seps), (7, .str [a, b]), (8, .int .i64 1), (1, .int .i32 r)], 1, [], 0⟩ : St)) 0 ) (ρ0 := id) ⟨rfl, by simp [leT, ltV, lt1, ren, ren1], by simp [leO, lt1, ren1], by simp, by simp⟩ (by rw [hI]; exact ⟨0, by simp, by simp, trivial, rfl⟩) ?_
      intro kk ss hIk _
      rw [hI] at hIk
      obtain ⟨i, hi, rfl, hx, rfl⟩ := hIk
      repeat (first | (with_reducible first | refine awp_seqK fun K hK => ?_ | refine awp_block ?_) | ((with_reducible first | refine awp_region (by kernel_rfl) ?_ | refine gcall_tt ?_ | refine gcall_ff ?_ | refine gcall_tf ?_ | refine gcall_ft ?_ | refine awp_skip ?_ | refine awp_exit ?_); simp [seps_len]) | ((repeat ((fail_if_success ((with_reducible refine hK _ ?_))); clear hK)); (with_reducible refine hK _ ?_); clear hK) | refine And.intro (by first | omega | assumption | grind) ?_)
      refine awp_cond rfl (fun _ => ?_) (fun h => by simp at h)
      repeat (first | (with_reducible first | refine awp_seqK fun K hK => ?_ | refine awp_block ?_) | ((with_reducible first | refine awp_region (by kernel_rfl) ?_ | refine gcall_tt ?_ | refine gcall_ff ?_ | refine gcall_tf ?_ | refine gcall_ft ?_ | refine awp_skip ?_ | refine awp_exit ?_); simp) | ((repeat ((fail_if_success ((with_reducible refine hK _ ?_))); clear hK)); (with_reducible refine hK _ ?_); clear hK) | refine And.intro (by first | omega | assumption | grind) ?_)
      refine awp_scope ?_
      repeat (first | (with_reducible first | refine awp_seqK fun K hK => ?_ | refine awp_block ?_) | ((with_reducible first | refine awp_region (by kernel_rfl) ?_ | refine gcall_tt ?_ | refine gcall_ff ?_ | refine gcall_tf ?_ | refine gcall_ft ?_ | refine awp_skip ?_ | refine awp_exit ?_); simp) | ((repeat ((fail_if_success ((with_reducible refine hK _ ?_))); clear hK)); (with_reducible refine hK _ ?_); clear hK) | refine And.intro (by first | omega | assumption | grind) ?_)
      refine awp_planI ([0, 1, 2, 3, 4, 5, 6] : List Nat) ([[], [], [0, 1], [], [], [3, 4], [0, 1, 2, 3, 4, 5]] : List (List Nat)) ([(6, ([[], [], [0, 1], [], [], [3, 4]], [])), (1, ([], []))] : List (Nat × List (List Nat) × List (Nat × Nat))) (by kernel_rfl) (by kernel_rfl) (by kernel_rfl) ?_
      repeat (first | (with_reducible first | refine awp_seqK fun K hK => ?_ | refine awp_block ?_) | ((with_reducible first | refine awp_region (by kernel_rfl) ?_ | refine gcall_tt ?_ | refine gcall_ff ?_ | refine gcall_tf ?_ | refine gcall_ft ?_ | refine gcallE_tt ?_ | refine gcallE_ff ?_ | refine gcallE_tf ?_ | refine gcallE_ft ?_ | refine awp_skip ?_ | refine awp_exit ?_); simp [seps_len, q1]) | ((repeat ((fail_if_success ((with_reducible first | refine hK _ ?_ | refine hK _ _ _ _ ?_))); clear hK)); (with_reducible first | refine hK _ ?_ | refine hK _ _ _ _ ?_); clear hK) | (with_reducible refine segs_one fun K hK => ?_; simp [seps_len, q1]) | (with_reducible refine segs_nil ?_; try simp only [thn, blk]) | (with_reducible refine segs_two fun K hK => ?_; simp only [List.take_succ_cons, List.take_zero]) | (with_reducible refine draw_step fun K hK => ?_; simp [seps_len, q1]) | (with_reducible refine draw_end ?_) | (with_reducible refine rechk_nil ?_; simp only [List.drop_succ_cons, List.drop_zero]; simp only [stS, eT, eO, List.cons_append, List.nil_append, cond_true, cond_false, Bool.and_true, Bool.and_false, Bool.true_and, Bool.false_and]) | (with_reducible refine rechk_cons ?_ ?_; (· (simp [seps_len, q1] <;> first | omega | grind))) | refine And.intro (by first | omega | assumption | grind) ?_)
      refine awp_cond rfl (fun _ => ?_) (fun h => by simp [n1] at h)
      repeat (first | (with_reducible first | refine awp_seqK fun K hK => ?_ | refine awp_block ?_) | ((with_reducible first | refine awp_region (by kernel_rfl) ?_ | refine gcall_tt ?_ | refine gcall_ff ?_ | refine gcall_tf ?_ | refine gcall_ft ?_ | refine gcallE_tt ?_ | refine gcallE_ff ?_ | refine gcallE_tf ?_ | refine gcallE_ft ?_ | refine awp_skip ?_ | refine awp_exit ?_); simp) | ((repeat ((fail_if_success ((with_reducible first | refine hK _ ?_ | refine hK _ _ _ _ ?_))); clear hK)); (with_reducible first | refine hK _ ?_ | refine hK _ _ _ _ ?_); clear hK) | (with_reducible refine segs_one fun K hK => ?_; simp) | (with_reducible refine segs_nil ?_; try simp only [thn, blk]) | (with_reducible refine segs_two fun K hK => ?_; simp only [List.take_succ_cons, List.take_zero]) | (with_reducible refine draw_step fun K hK => ?_; simp) | (with_reducible refine draw_end ?_) | (with_reducible refine rechk_nil ?_; simp only [List.drop_succ_cons, List.drop_zero]; simp only [stS, eT, eO, List.cons_append, List.nil_append, cond_true, cond_false, Bool.and_true, Bool.and_false, Bool.true_and, Bool.false_and]) | (with_reducible refine rechk_cons ?_ ?_; (· (simp <;> first | omega | grind))) | refine And.intro (by first | omega | assumption | grind) ?_)
      refine awp_planI ([0, 1, 2, 3, 4, 5, 6, 7, 8] : List Nat) ([[], [], [1], [0, 1, 2], [], [], [4, 5], [0, 1, 2, 3, 4, 5, 6], [0, 1, 2, 3, 4, 5, 6, 7]] : List (List Nat)) ([(7, ([[], [], [1], [0, 1, 2], [], [], [4, 5]], [])), (1, ([], [])), (1, ([], []))] : List (Nat × List (List Nat) × List (Nat × Nat))) (by kernel_rfl) (by kernel_rfl) (by kernel_rfl) ?_
      repeat (first | (with_reducible first | refine awp_seqK fun K hK => ?_ | refine awp_block ?_) | ((with_reducible first | refine awp_region (by kernel_rfl) ?_ | refine gcall_tt ?_ | refine gcall_ff ?_ | refine gcall_tf ?_ | refine gcall_ft ?_ | refine gcallE_tt ?_ | refine gcallE_ff ?_ | refine gcallE_tf ?_ | refine gcallE_ft ?_ | refine awp_skip ?_ | refine awp_exit ?_); simp [seps_len, w2, w3, w4, d1]) | ((repeat ((fail_if_success ((with_reducible first | refine hK _ ?_ | refine hK _ _ _ _ ?_))); clear hK)); (with_reducible first | refine hK _ ?_ | refine hK _ _ _ _ ?_); clear hK) | (with_reducible refine segs_one fun K hK => ?_; simp [seps_len, w2, w3, w4, d1]) | (with_reducible refine segs_nil ?_; try simp only [thn, blk]) | (with_reducible refine segs_two fun K hK => ?_; simp only [List.take_succ_cons, List.take_zero]) | (with_reducible refine draw_step fun K hK => ?_; simp [seps_len, w2, w3, w4, d1]) | (with_reducible refine draw_end ?_) | (with_reducible refine rechk_nil ?_; simp only [List.drop_succ_cons, List.drop_zero]; simp only [stS, eT, eO, List.cons_append, List.nil_append, cond_true, cond_false, Bool.and_true, Bool.and_false, Bool.true_and, Bool.false_and]) | (with_reducible refine rechk_cons ?_ ?_; (· (simp [seps_len, w2, w3, w4, d1] <;> first | omega | grind))) | refine And.intro (by first | omega | assumption | grind) ?_)
      first | refine .inl ⟨0, _, idxb_ok [58, 40, 41] b, ?_⟩ | refine .inl ⟨0, _, Meets.wk (idxb_ok [58, 40, 41] b) (by simp), ?_⟩ | refine ⟨0, _, idxb_ok [58, 40, 41] b, ?_⟩ | refine ⟨0, _, Meets.wk (idxb_ok [58, 40, 41] b) (by simp), ?_⟩
      simp [aftC, aftE, hix]
      repeat (first | (with_reducible first | refine awp_seqK fun K hK => ?_ | refine awp_block ?_) | ((with_reducible first | refine awp_region (by kernel_rfl) ?_ | refine gcall_tt ?_ | refine gcall_ff ?_ | refine gcall_tf ?_ | refine gcall_ft ?_ | refine gcallE_tt ?_ | refine gcallE_ff ?_ | refine gcallE_tf ?_ | refine gcallE_ft ?_ | refine awp_skip ?_ | refine awp_exit ?_); simp) | ((repeat ((fail_if_success ((with_reducible first | refine hK _ ?_ | refine hK _ _ _ _ ?_))); clear hK)); (with_reducible first | refine hK _ ?_ | refine hK _ _ _ _ ?_); clear hK) | (with_reducible refine segs_one fun K hK => ?_; simp) | (with_reducible refine segs_nil ?_; try simp only [thn, blk]) | (with_reducible refine segs_two fun K hK => ?_; simp only [List.take_succ_cons, List.take_zero]) | (with_reducible refine draw_step fun K hK => ?_; simp) | (with_reducible refine draw_end ?_) | (with_reducible refine rechk_nil ?_; simp only [List.drop_succ_cons, List.drop_zero]; simp only [stS, eT, eO, List.cons_append, List.nil_append, cond_true, cond_false, Bool.and_true, Bool.and_false, Bool.true_and, Bool.false_and]) | (with_reducible refine rechk_cons ?_ ?_; (· (simp <;> first | omega | grind))) | refine And.intro (by first | omega | assumption | grind) ?_)
      refine awp_cond rfl (fun _ => ?_) (fun h => by simp at h)
      repeat (first | (with_reducible first | refine awp_seqK fun K hK => ?_ | refine awp_block ?_) | ((with_reducible first | refine awp_region (by kernel_rfl) ?_ | refine gcall_tt ?_ | refine gcall_ff ?_ | refine gcall_tf ?_ | refine gcall_ft ?_ | refine gcallE_tt ?_ | refine gcallE_ff ?_ | refine gcallE_tf ?_ | refine gcallE_ft ?_ | refine awp_skip ?_ | refine awp_exit ?_); simp) | ((repeat ((fail_if_success ((with_reducible first | refine hK _ ?_ | refine hK _ _ _ _ ?_))); clear hK)); (with_reducible first | refine hK _ ?_ | refine hK _ _ _ _ ?_); clear hK) | (with_reducible refine segs_one fun K hK => ?_; simp) | (with_reducible refine segs_nil ?_; try simp only [thn, blk]) | (with_reducible refine segs_two fun K hK => ?_; simp only [List.take_succ_cons, List.take_zero]) | (with_reducible refine draw_step fun K hK => ?_; simp) | (with_reducible refine draw_end ?_) | (with_reducible refine rechk_nil ?_; simp only [List.drop_succ_cons, List.drop_zero]; simp only [stS, eT, eO, List.cons_append, List.nil_append, cond_true, cond_false, Bool.and_true, Bool.and_false, Bool.true_and, Bool.false_and]) | (with_reducible refine rechk_cons ?_ ?_; (· (simp <;> first | omega | grind))) | refine And.intro (by first | omega | assumption | grind) ?_)
      refine awp_ret ?_
      simp
    · have hix := idx_high hb [40, 41] (by decide)
      refine awp_scope ?_
      repeat (first | (with_reducible first | refine awp_seqK fun K hK => ?_ | refine awp_block ?_) | ((with_reducible first | refine awp_region (by kernel_rfl) ?_ | refine gcall_tt ?_ | refine gcall_ff ?_ | refine gcall_tf ?_ | refine gcall_ft ?_ | refine gcallE_tt ?_ | refine gcallE_ff ?_ | refine gcallE_tf ?_ | refine gcallE_ft ?_ | refine awp_skip ?_ | refine awp_exit ?_); simp [he, w2, isInt9]) | ((repeat ((fail_if_success ((with_reducible first | refine hK _ ?_ | refine hK _ _ _ _ ?_))); clear hK)); (with_reducible first | refine hK _ ?_ | refine hK _ _ _ _ ?_); clear hK) | (with_reducible refine segs_one fun K hK => ?_; simp [he, w2, isInt9]) | (with_reducible refine segs_nil ?_; try simp only [thn, blk]) | (with_reducible refine segs_two fun K hK => ?_; simp only [List.take_succ_cons, List.take_zero]) | (with_reducible refine draw_step fun K hK => ?_; simp [he, w2, isInt9]) | (with_reducible refine draw_end ?_) | (with_reducible refine rechk_nil ?_; simp only [List.drop_succ_cons, List.drop_zero]; simp only [stS, eT, eO, List.cons_append, List.nil_append, cond_true, cond_false, Bool.and_true, Bool.and_false, Bool.true_and, Bool.false_and]) | (with_reducible refine rechk_cons ?_ ?_; (· (simp [he, w2, isInt9] <;> first | omega | grind))) | refine And.intro (by first | omega | assumption | grind) ?_)
      obtain ⟨I, hI⟩ : ∃ I : Nat → St → Prop, I = (fun kk ss => ∃ (i : Nat) , i ≤ 1 ∧ kk = 1 - i ∧ (True) ∧ ss = ⟨187, [(9, .int .i64 2), (10, .int .i64 0), (0, .str seps), (7, .str [a, c, b]), (8, .int .i64 2), (1, .int .i32 r)], 1, [], 0⟩) := ⟨_, rfl⟩
      refine awp_loopA I (k0 := 1) (st0 := (fun (i : Nat)  => (⟨187, [(9, .int .i64 2), (10, .int .i64 0), (0, .str seps), (7, .str [a, c, b]), (8, .int .i64 2), (1, .int .i32 r)], 1, [], 0⟩ : St)) 0 ) (ρ0 := id) ⟨rfl, by simp [leT, ltV, lt1, ren, ren1], by simp [leO, lt1, ren1], by simp, by simp⟩ (by rw [hI]; exact ⟨0, by simp, by simp, trivial, rfl⟩) ?_
      intro kk ss hIk _
      rw [hI] at hIk
      obtain ⟨i, hi, rfl, hx, rfl⟩ := hIk
      repeat (first | (with_reducible first | refine awp_seqK fun K hK => ?_ | refine awp_block ?_) | ((with_reducible first | refine awp_region (by kernel_rfl) ?_ | refine gcall_tt ?_ | refine gcall_ff ?_ | refine gcall_tf ?_ | refine gcall_ft ?_ | refine gcallE_tt ?_ | refine gcallE_ff ?_ | refine gcallE_tf ?_ | refine gcallE_ft ?_ | refine awp_skip ?_ | refine awp_exit ?_); simp [seps_len]) | ((repeat ((fail_if_success ((with_reducible first | refine hK _ ?_ | refine hK _ _ _ _ ?_))); clear hK)); (with_reducible first | refine hK _ ?_ | refine hK _ _ _ _ ?_); clear hK) | (with_reducible refine segs_one fun K hK => ?_; simp [seps_len]) | (with_reducible refine segs_nil ?_; try simp only [thn, blk]) | (with_reducible refine segs_two fun K hK => ?_; simp only [List.take_succ_cons, List.take_zero]) | (with_reducible refine draw_step fun K hK => ?_; simp [seps_len]) | (with_reducible refine draw_end ?_) | (with_reducible refine rechk_nil ?_; simp only [List.drop_succ_cons, List.drop_zero]; simp only [stS, eT, eO, List.cons_append, List.nil_append, cond_true, cond_false, Bool.and_true, Bool.and_false, Bool.true_and, Bool.false_and]) | (with_reducible refine rechk_cons ?_ ?_; (· (simp [seps_len] <;> first | omega | grind))) | refine And.intro (by first | omega | assumption | grind) ?_)
      refine awp_cond rfl (fun _ => ?_) (fun h => by simp at h)
      repeat (first | (with_reducible first | refine awp_seqK fun K hK => ?_ | refine awp_block ?_) | ((with_reducible first | refine awp_region (by kernel_rfl) ?_ | refine gcall_tt ?_ | refine gcall_ff ?_ | refine gcall_tf ?_ | refine gcall_ft ?_ | refine gcallE_tt ?_ | refine gcallE_ff ?_ | refine gcallE_tf ?_ | refine gcallE_ft ?_ | refine awp_skip ?_ | refine awp_exit ?_); simp) | ((repeat ((fail_if_success ((with_reducible first | refine hK _ ?_ | refine hK _ _ _ _ ?_))); clear hK)); (with_reducible first | refine hK _ ?_ | refine hK _ _ _ _ ?_); clear hK) | (with_reducible refine segs_one fun K hK => ?_; simp) | (with_reducible refine segs_nil ?_; try simp only [thn, blk]) | (with_reducible refine segs_two fun K hK => ?_; simp only [List.take_succ_cons, List.take_zero]) | (with_reducible refine draw_step fun K hK => ?_; simp) | (with_reducible refine draw_end ?_) | (with_reducible refine rechk_nil ?_; simp only [List.drop_succ_cons, List.drop_zero]; simp only [stS, eT, eO, List.cons_append, List.nil_append, cond_true, cond_false, Bool.and_true, Bool.and_false, Bool.true_and, Bool.false_and]) | (with_reducible refine rechk_cons ?_ ?_; (· (simp <;> first | omega | grind))) | refine And.intro (by first | omega | assumption | grind) ?_)
      refine awp_scope ?_
      repeat (first | (with_reducible first | refine awp_seqK fun K hK => ?_ | refine awp_block ?_) | ((with_reducible first | refine awp_region (by kernel_rfl) ?_ | refine gcall_tt ?_ | refine gcall_ff ?_ | refine gcall_tf ?_ | refine gcall_ft ?_ | refine gcallE_tt ?_ | refine gcallE_ff ?_ | refine gcallE_tf ?_ | refine gcallE_ft ?_ | refine awp_skip ?_ | refine awp_exit ?_); simp) | ((repeat ((fail_if_success ((with_reducible first | refine hK _ ?_ | refine hK _ _ _ _ ?_))); clear hK)); (with_reducible first | refine hK _ ?_ | refine hK _ _ _ _ ?_); clear hK) | (with_reducible refine segs_one fun K hK => ?_; simp) | (with_reducible refine segs_nil ?_; try simp only [thn, blk]) | (with_reducible refine segs_two fun K hK => ?_; simp only [List.take_succ_cons, List.take_zero]) | (with_reducible refine draw_step fun K hK => ?_; simp) | (with_reducible refine draw_end ?_) | (with_reducible refine rechk_nil ?_; simp only [List.drop_succ_cons, List.drop_zero]; simp only [stS, eT, eO, List.cons_append, List.nil_append, cond_true, cond_false, Bool.and_true, Bool.and_false, Bool.true_and, Bool.false_and]) | (with_reducible refine rechk_cons ?_ ?_; (· (simp <;> first | omega | grind))) | refine And.intro (by first | omega | assumption | grind) ?_)
      refine awp_planI ([0, 1, 2, 3, 4, 5, 6] : List Nat) ([[], [], [0, 1], [], [], [3, 4], [0, 1, 2, 3, 4, 5]] : List (List Nat)) ([(6, ([[], [], [0, 1], [], [], [3, 4]], [])), (1, ([], []))] : List (Nat × List (List Nat) × List (Nat × Nat))) (by kernel_rfl) (by kernel_rfl) (by kernel_rfl) ?_
      repeat (first | (with_reducible first | refine awp_seqK fun K hK => ?_ | refine awp_block ?_) | ((with_reducible first | refine awp_region (by kernel_rfl) ?_ | refine gcall_tt ?_ | refine gcall_ff ?_ | refine gcall_tf ?_ | refine gcall_ft ?_ | refine gcallE_tt ?_ | refine gcallE_ff ?_ | refine gcallE_tf ?_ | refine gcallE_ft ?_ | refine awp_skip ?_ | refine awp_exit ?_); simp [seps_len, q2]) | ((repeat ((fail_if_success ((with_reducible first | refine hK _ ?_ | refine hK _ _ _ _ ?_))); clear hK)); (with_reducible first | refine hK _ ?_ | refine hK _ _ _ _ ?_); clear hK) | (with_reducible refine segs_one fun K hK => ?_; simp [seps_len, q2]) | (with_reducible refine segs_nil ?_; try simp only [thn, blk]) | (with_reducible refine segs_two fun K hK => ?_; simp only [List.take_succ_cons, List.take_zero]) | (with_reducible refine draw_step fun K hK => ?_; simp [seps_len, q2]) | (with_reducible refine draw_end ?_) | (with_reducible refine rechk_nil ?_; simp only [List.drop_succ_cons, List.drop_zero]; simp only [stS, eT, eO, List.cons_append, List.nil_append, cond_true, cond_false, Bool.and_true, Bool.and_false, Bool.true_and, Bool.false_and]) | (with_reducible refine rechk_cons ?_ ?_; (· (simp [seps_len, q2] <;> first | omega | grind))) | refine And.intro (by first | omega | assumption | grind) ?_)
      refine awp_cond rfl (fun _ => ?_) (fun h => by simp [n2] at h)
      repeat (first | (with_reducible first | refine awp_seqK fun K hK => ?_ | refine awp_block ?_) | ((with_reducible first | refine awp_region (by kernel_rfl) ?_ | refine gcall_tt ?_ | refine gcall_ff ?_ | refine gcall_tf ?_ | refine gcall_ft ?_ | refine gcallE_tt ?_ | refine gcallE_ff ?_ | refine gcallE_tf ?_ | refine gcallE_ft ?_ | refine awp_skip ?_ | refine awp_exit ?_); simp) | ((repeat ((fail_if_success ((with_reducible first | refine hK _ ?_ | refine hK _ _ _ _ ?_))); clear hK)); (with_reducible first | refine hK _ ?_ | refine hK _ _ _ _ ?_); clear hK) | (with_reducible refine segs_one fun K hK => ?_; simp) | (with_reducible refine segs_nil ?_; try simp only [thn, blk]) | (with_reducible refine segs_two fun K hK => ?_; simp only [List.take_succ_cons, List.take_zero]) | (with_reducible refine draw_step fun K hK => ?_; simp) | (with_reducible refine draw_end ?_) | (with_reducible refine rechk_nil ?_; simp only [List.drop_succ_cons, List.drop_zero]; simp only [stS, eT, eO, List.cons_append, List.nil_append, cond_true, cond_false, Bool.and_true, Bool.and_false, Bool.true_and, Bool.false_and]) | (with_reducible refine rechk_cons ?_ ?_; (· (simp <;> first | omega | grind))) | refine And.intro (by first | omega | assumption | grind) ?_)
      refine awp_planI ([0, 1, 2, 3, 4, 5, 6, 7, 8] : List Nat) ([[], [], [1], [0, 1, 2], [], [], [4, 5], [0, 1, 2, 3, 4, 5, 6], [0, 1, 2, 3, 4, 5, 6, 7]] : List (List Nat)) ([(7, ([[], [], [1], [0, 1, 2], [], [], [4, 5]], [])), (1, ([], [])), (1, ([], []))] : List (Nat × List (List Nat) × List (Nat × Nat))) (by kernel_rfl) (by kernel_rfl) (by kernel_rfl) ?_
      repeat (first | (with_reducible first | refine awp_seqK fun K hK => ?_ | refine awp_block ?_) | ((with_reducible first | refine awp_region (by kernel_rfl) ?_ | refine gcall_tt ?_ | refine gcall_ff ?_ | refine gcall_tf ?_ | refine gcall_ft ?_ | refine gcallE_tt ?_ | refine gcallE_ff ?_ | refine gcallE_tf ?_ | refine gcallE_ft ?_ | refine awp_skip ?_ | refine awp_exit ?_); simp [seps_len, w2, w3, w4, d2]) | ((repeat ((fail_if_success ((with_reducible first | refine hK _ ?_ | refine hK _ _ _ _ ?_))); clear hK)); (with_reducible first | refine hK _ ?_ | refine hK _ _ _ _ ?_); clear hK) | (with_reducible refine segs_one fun K hK => ?_; simp [seps_len, w2, w3, w4, d2]) | (with_reducible refine segs_nil ?_; try simp only [thn, blk]) | (with_reducible refine segs_two fun K hK => ?_; simp only [List.take_succ_cons, List.take_zero]) | (with_reducible refine draw_step fun K hK => ?_; simp [seps_len, w2, w3, w4, d2]) | (with_reducible refine draw_end ?_) | (with_reducible refine rechk_nil ?_; simp only [List.drop_succ_cons, List.drop_zero]; simp only [stS, eT, eO, List.cons_append, List.nil_append, cond_true, cond_false, Bool.and_true, Bool.and_false, Bool.true_and, Bool.false_and]) | (with_reducible refine rechk_cons ?_ ?_; (· (simp [seps_len, w2, w3, w4, d2] <;> first | omega | grind))) | refine And.intro (by first | omega | assumption | grind) ?_)
      first | refine .inl ⟨0, _, idxb_ok [40, 41] b, ?_⟩ | refine .inl ⟨0, _, Meets.wk (idxb_ok [40, 41] b) (by simp), ?_⟩ | refine ⟨0, _, idxb_ok [40, 41] b, ?_⟩ | refine ⟨0, _, Meets.wk (idxb_ok [40, 41] b) (by simp), ?_⟩
      simp [aftC, aftE, hix]
      repeat (first | (with_reducible first | refine awp_seqK fun K hK => ?_ | refine awp_block ?_) | ((with_reducible first | refine awp_region (by kernel_rfl) ?_ | refine gcall_tt ?_ | refine gcall_ff ?_ | refine gcall_tf ?_ | refine gcall_ft ?_ | refine gcallE_tt ?_ | refine gcallE_ff ?_ | refine gcallE_tf ?_ | refine gcallE_ft ?_ | refine awp_skip ?_ | refine awp_exit ?_); simp) | ((repeat ((fail_if_success ((with_reducible first | refine hK _ ?_ | refine hK _ _ _ _ ?_))); clear hK)); (with_reducible first | refine hK _ ?_ | refine hK _ _ _ _ ?_); clear hK) | (with_reducible refine segs_one fun K hK => ?_; simp) | (with_reducible refine segs_nil ?_; try simp only [thn, blk]) | (with_reducible refine segs_two fun K hK => ?_; simp only [List.take_succ_cons, List.take_zero]) | (with_reducible refine draw_step fun K hK => ?_; simp) | (with_reducible refine draw_end ?_) | (with_reducible refine rechk_nil ?_; simp only [List.drop_succ_cons, List.drop_zero]; simp only [stS, eT, eO, List.cons_append, List.nil_append, cond_true, cond_false, Bool.and_true, Bool.and_false, Bool.true_and, Bool.false_and]) | (with_reducible refine rechk_cons ?_ ?_; (· (simp <;> first | omega | grind))) | refine And.intro (by first | omega | assumption | grind) ?_)
      refine awp_cond rfl (fun _ => ?_) (fun h => by simp at h)
      repeat (first | (with_reducible first | refine awp_seqK fun K hK => ?_ | refine awp_block ?_) | ((with_reducible first | refine awp_region (by kernel_rfl) ?_ | refine gcall_tt ?_ | refine gcall_ff ?_ | refine gcall_tf ?_ | refine gcall_ft ?_ | refine gcallE_tt ?_ | refine gcallE_ff ?_ | refine gcallE_tf ?_ | refine gcallE_ft ?_ | refine awp_skip ?_ | refine awp_exit ?_); simp) | ((repeat ((fail_if_success ((with_reducible first | refine hK _ ?_ | refine hK _ _ _ _ ?_))); clear hK)); (with_reducible first | refine hK _ ?_ | refine hK _ _ _ _ ?_); clear hK) | (with_reducible refine segs_one fun K hK => ?_; simp) | (with_reducible refine segs_nil ?_; try simp only [thn, blk]) | (with_reducible refine segs_two fun K hK => ?_; simp only [List.take_succ_cons, List.take_zero]) | (with_reducible refine draw_step fun K hK => ?_; simp) | (with_reducible refine draw_end ?_) | (with_reducible refine rechk_nil ?_; simp only [List.drop_succ_cons, List.drop_zero]; simp only [stS, eT, eO, List.cons_append, List.nil_append, cond_true, cond_false, Bool.and_true, Bool.and_false, Bool.true_and, Bool.false_and]) | (with_reducible refine rechk_cons ?_ ?_; (· (simp <;> first | omega | grind))) | refine And.intro (by first | omega | assumption | grind) ?_)
      refine awp_ret ?_
      simp
    · have hix := idx_high hb [41] (by decide)
      refine awp_scope ?_
      repeat (first | (with_reducible first | refine awp_seqK fun K hK => ?_ | refine awp_block ?_) | ((with_reducible first | refine awp_region (by kernel_rfl) ?_ | refine gcall_tt ?_ | refine gcall_ff ?_ | refine gcall_tf ?_ | refine gcall_ft ?_ | refine gcallE_tt ?_ | refine gcallE_ff ?_ | refine gcallE_tf ?_ | refine gcallE_ft ?_ | refine awp_skip ?_ | refine awp_exit ?_); simp [he, w3, isInt9]) | ((repeat ((fail_if_success ((with_reducible first | refine hK _ ?_ | refine hK _ _ _ _ ?_))); clear hK)); (with_reducible first | refine hK _ ?_ | refine hK _ _ _ _ ?_); clear hK) | (with_reducible refine segs_one fun K hK => ?_; simp [he, w3, isInt9]) | (with_reducible refine segs_nil ?_; try simp only [thn, blk]) | (with_reducible refine segs_two fun K hK => ?_; simp only [List.take_succ_cons, List.take_zero]) | (with_reducible refine draw_step fun K hK => ?_; simp [he, w3, isInt9]) | (with_reducible refine draw_end ?_) | (with_reducible refine rechk_nil ?_; simp only [List.drop_succ_cons, List.drop_zero]; simp only [stS, eT, eO, List.cons_append, List.nil_append, cond_true, cond_false, Bool.and_true, Bool.and_false, Bool.true_and, Bool.false_and]) | (with_reducible refine rechk_cons ?_ ?_; (· (simp [he, w3, isInt9] <;> first | omega | grind))) | refine And.intro (by first | omega | assumption | grind) ?_)
      obtain ⟨I, hI⟩ : ∃ I : Nat → St → Prop, I = (fun kk ss => ∃ (i : Nat) , i ≤ 1 ∧ kk = 1 - i ∧ (True) ∧ ss = ⟨187, [(9, .int .i64 3), (10, .int .i64 0), (0, .str seps), (7, .str [a, c, d, b]), (8, .int .i64 3), (1, .int .i32 r)], 1, [], 0⟩) := ⟨_, rfl⟩
      refine awp_loopA I (k0 := 1) (st0 := (fun (i : Nat)  => (⟨187, [(9, .int .i64 3), (10, .int .i64 0), (0, .str seps), (7, .str [a, c, d, b]), (8, .int .i64 3), (1, .int .i32 r)], 1, [], 0⟩ : St)) 0 ) (ρ0 := id) ⟨rfl, by simp [leT, ltV, lt1, ren, ren1], by simp [leO, lt1, ren1], by simp, by simp⟩ (by rw [hI]; exact ⟨0, by simp, by simp, trivial, rfl⟩) ?_
      intro kk ss hIk _
      rw [hI] at hIk
      obtain ⟨i, hi, rfl, hx, rfl⟩ := hIk
      repeat (first | (with_reducible first | refine awp_seqK fun K hK => ?_ | refine awp_block ?_) | ((with_reducible first | refine awp_region (by kernel_rfl) ?_ | refine gcall_tt ?_ | refine gcall_ff ?_ | refine gcall_tf ?_ | refine gcall_ft ?_ | refine gcallE_tt ?_ | refine gcallE_ff ?_ | refine gcallE_tf ?_ | refine gcallE_ft ?_ | refine awp_skip ?_ | refine awp_exit ?_); simp [seps_len]) | ((repeat ((fail_if_success ((with_reducible first | refine hK _ ?_ | refine hK _ _ _ _ ?_))); clear hK)); (with_reducible first | refine hK _ ?_ | refine hK _ _ _ _ ?_); clear hK) | (with_reducible refine segs_one fun K hK => ?_; simp [seps_len]) | (with_reducible refine segs_nil ?_; try simp only [thn, blk]) | (with_reducible refine segs_two fun K hK => ?_; simp only [List.take_succ_cons, List.take_zero]) | (with_reducible refine draw_step fun K hK => ?_; simp [seps_len]) | (with_reducible refine draw_end ?_) | (with_reducible refine rechk_nil ?_; simp only [List.drop_succ_cons, List.drop_zero]; simp only [stS, eT, eO, List.cons_append, List.nil_append, cond_true, cond_false, Bool.and_true, Bool.and_false, Bool.true_and, Bool.false_and]) | (with_reducible refine rechk_cons ?_ ?_; (· (simp [seps_len] <;> first | omega | grind))) | refine And.intro (by first | omega | assumption | grind) ?_)
      refine awp_cond rfl (fun _ => ?_) (fun h => by simp at h)
      repeat (first | (with_reducible first | refine awp_seqK fun K hK => ?_ | refine awp_block ?_) | ((with_reducible first | refine awp_region (by kernel_rfl) ?_ | refine gcall_tt ?_ | refine gcall_ff ?_ | refine gcall_tf ?_ | refine gcall_ft ?_ | refine gcallE_tt ?_ | refine gcallE_ff ?_ | refine gcallE_tf ?_ | refine gcallE_ft ?_ | refine awp_skip ?_ | refine awp_exit ?_); simp) | ((repeat ((fail_if_success ((with_reducible first | refine hK _ ?_ | refine hK _ _ _ _ ?_))); clear hK)); (with_reducible first | refine hK _ ?_ | refine hK _ _ _ _ ?_); clear hK) | (with_reducible refine segs_one fun K hK => ?_; simp) | (with_reducible refine segs_nil ?_; try simp only [thn, blk]) | (with_reducible refine segs_two fun K hK => ?_; simp only [List.take_succ_cons, List.take_zero]) | (with_reducible refine draw_step fun K hK => ?_; simp) | (with_reducible refine draw_end ?_) | (with_reducible refine rechk_nil ?_; simp only [List.drop_succ_cons, List.drop_zero]; simp only [stS, eT, eO, List.cons_append, List.nil_append, cond_true, cond_false, Bool.and_true, Bool.and_false, Bool.true_and, Bool.false_and]) | (with_reducible refine rechk_cons ?_ ?_; (· (simp <;> first | omega | grind))) | refine And.intro (by first | omega | assumption | grind) ?_)
      refine awp_scope ?_
      repeat (first | (with_reducible first | refine awp_seqK fun K hK => ?_ | refine awp_block ?_) | ((with_reducible first | refine awp_region (by kernel_rfl) ?_ | refine gcall_tt ?_ | refine gcall_ff ?_ | refine gcall_tf ?_ | refine gcall_ft ?_ | refine gcallE_tt ?_ | refine gcallE_ff ?_ | refine gcallE_tf ?_ | refine gcallE_ft ?_ | refine awp_skip ?_ | refine awp_exit ?_); simp) | ((repeat ((fail_if_success ((with_reducible first | refine hK _ ?_ | refine hK _ _ _ _ ?_))); clear hK)); (with_reducible first | refine hK _ ?_ | refine hK _ _ _ _ ?_); clear hK) | (with_reducible refine segs_one fun K hK => ?_; simp) | (with_reducible refine segs_nil ?_; try simp only [thn, blk]) | (with_reducible refine segs_two fun K hK => ?_; simp only [List.take_succ_cons, List.take_zero]) | (with_reducible refine draw_step fun K hK => ?_; simp) | (with_reducible refine draw_end ?_) | (with_reducible refine rechk_nil ?_; simp only [List.drop_succ_cons, List.drop_zero]; simp only [stS, eT, eO, List.cons_append, List.nil_append, cond_true, cond_false, Bool.and_true, Bool.and_false, Bool.true_and, Bool.false_and]) | (with_reducible refine rechk_cons ?_ ?_; (· (simp <;> first | omega | grind))) | refine And.intro (by first | omega | assumption | grind) ?_)
      refine awp_planI ([0, 1, 2, 3, 4, 5, 6] : List Nat) ([[], [], [0, 1], [], [], [3, 4], [0, 1, 2, 3, 4, 5]] : List (List Nat)) ([(6, ([[], [], [0, 1], [], [], [3, 4]], [])), (1, ([], []))] : List (Nat × List (List Nat) × List (Nat × Nat))) (by kernel_rfl) (by kernel_rfl) (by kernel_rfl) ?_
      repeat (first | (with_reducible first | refine awp_seqK fun K hK => ?_ | refine awp_block ?_) | ((with_reducible first | refine awp_region (by kernel_rfl) ?_ | refine gcall_tt ?_ | refine gcall_ff ?_ | refine gcall_tf ?_ | refine gcall_ft ?_ | refine gcallE_tt ?_ | refine gcallE_ff ?_ | refine gcallE_tf ?_ | refine gcallE_ft ?_ | refine awp_skip ?_ | refine awp_exit ?_); simp [seps_len, q3]) | ((repeat ((fail_if_success ((with_reducible first | refine hK _ ?_ | refine hK _ _ _ _ ?_))); clear hK)); (with_reducible first | refine hK _ ?_ | refine hK _ _ _ _ ?_); clear hK) | (with_reducible refine segs_one fun K hK => ?_; simp [seps_len, q3]) | (with_reducible refine segs_nil ?_; try simp only [thn, blk]) | (with_reducible refine segs_two fun K hK => ?_; simp only [List.take_succ_cons, List.take_zero]) | (with_reducible refine draw_step fun K hK => ?_; simp [seps_len, q3]) | (with_reducible refine draw_end ?_) | (with_reducible refine rechk_nil ?_; simp only [List.drop_succ_cons, List.drop_zero]; simp only [stS, eT, eO, List.cons_append, List.nil_append, cond_true, cond_false, Bool.and_true, Bool.and_false, Bool.true_and, Bool.false_and]) | (with_reducible refine rechk_cons ?_ ?_; (· (simp [seps_len, q3] <;> first | omega | grind))) | refine And.intro (by first | omega | assumption | grind) ?_)
      refine awp_cond rfl (fun _ => ?_) (fun h => by simp [n3] at h)
      repeat (first | (with_reducible first | refine awp_seqK fun K hK => ?_ | refine awp_block ?_) | ((with_reducible first | refine awp_region (by kernel_rfl) ?_ | refine gcall_tt ?_ | refine gcall_ff ?_ | refine gcall_tf ?_ | refine gcall_ft ?_ | refine gcallE_tt ?_ | refine gcallE_ff ?_ | refine gcallE_tf ?_ | refine gcallE_ft ?_ | refine awp_skip ?_ | refine awp_exit ?_); simp) | ((repeat ((fail_if_success ((with_reducible first | refine hK _ ?_ | refine hK _ _ _ _ ?_))); clear hK)); (with_reducible first | refine hK _ ?_ | refine hK _ _ _ _ ?_); clear hK) | (with_reducible refine segs_one fun K hK => ?_; simp) | (with_reducible refine segs_nil ?_; try simp only [thn, blk]) | (with_reducible refine segs_two fun K hK => ?_; simp only [List.take_succ_cons, List.take_zero]) | (with_reducible refine draw_step fun K hK => ?_; simp) | (with_reducible refine draw_end ?_) | (with_reducible refine rechk_nil ?_; simp only [List.drop_succ_cons, List.drop_zero]; simp only [stS, eT, eO, List.cons_append, List.nil_append, cond_true, cond_false, Bool.and_true, Bool.and_false, Bool.true_and, Bool.false_and]) | (with_reducible refine rechk_cons ?_ ?_; (· (simp <;> first | omega | grind))) | refine And.intro (by first | omega | assumption | grind) ?_)
      refine awp_planI ([0, 1, 2, 3, 4, 5, 6, 7, 8] : List Nat) ([[], [], [1], [0, 1, 2], [], [], [4, 5], [0, 1, 2, 3, 4, 5, 6], [0, 1, 2, 3, 4, 5, 6, 7]] : List (List Nat)) ([(7, ([[], [], [1], [0, 1, 2], [], [], [4, 5]], [])), (1, ([], [])), (1, ([], []))] : List (Nat × List (List Nat) × List (Nat × Nat))) (by kernel_rfl) (by kernel_rfl) (by kernel_rfl) ?_
      repeat (first | (with_reducible first | refine awp_seqK fun K hK => ?_ | refine awp_block ?_) | ((with_reducible first | refine awp_region (by kernel_rfl) ?_ | refine gcall_tt ?_ | refine gcall_ff ?_ | refine gcall_tf ?_ | refine gcall_ft ?_ | refine gcallE_tt ?_ | refine gcallE_ff ?_ | refine gcallE_tf ?_ | refine gcallE_ft ?_ | refine awp_skip ?_ | refine awp_exit ?_); simp [seps_len, w2, w3, w4, d3]) | ((repeat ((fail_if_success ((with_reducible first | refine hK _ ?_ | refine hK _ _ _ _ ?_))); clear hK)); (with_reducible first | refine hK _ ?_ | refine hK _ _ _ _ ?_); clear hK) | (with_reducible refine segs_one fun K hK => ?_; simp [seps_len, w2, w3, w4, d3]) | (with_reducible refine segs_nil ?_; try simp only [thn, blk]) | (with_reducible refine segs_two fun K hK => ?_; simp only [List.take_succ_cons, List.take_zero]) | (with_reducible refine draw_step fun K hK => ?_; simp [seps_len, w2, w3, w4, d3]) | (with_reducible refine draw_end ?_) | (with_reducible refine rechk_nil ?_; simp only [List.drop_succ_cons, List.drop_zero]; simp only [stS, eT, eO, List.cons_append, List.nil_append, cond_true, cond_false, Bool.and_true, Bool.and_false, Bool.true_and, Bool.false_and]) | (with_reducible refine rechk_cons ?_ ?_; (· (simp [seps_len, w2, w3, w4, d3] <;> first | omega | grind))) | refine And.intro (by first | omega | assumption | grind) ?_)
      first | refine .inl ⟨0, _, idxb_ok [41] b, ?_⟩ | refine .inl ⟨0, _, Meets.wk (idxb_ok [41] b) (by simp), ?_⟩ | refine ⟨0, _, idxb_ok [41] b, ?_⟩ | refine ⟨0, _, Meets.wk (idxb_ok [41] b) (by simp), ?_⟩
      simp [aftC, aftE, hix]
      repeat (first | (with_reducible first | refine awp_seqK fun K hK => ?_ | refine awp_block ?_) | ((with_reducible first | refine awp_region (by kernel_rfl) ?_ | refine gcall_tt ?_ | refine gcall_ff ?_ | refine gcall_tf ?_ | refine gcall_ft ?_ | refine gcallE_tt ?_ | refine gcallE_ff ?_ | refine gcallE_tf ?_ | refine gcallE_ft ?_ | refine awp_skip ?_ | refine awp_exit ?_); simp) | ((repeat ((fail_if_success ((with_reducible first | refine hK _ ?_ | refine hK _ _ _ _ ?_))); clear hK)); (with_reducible first | refine hK _ ?_ | refine hK _ _ _ _ ?_); clear hK) | (with_reducible refine segs_one fun K hK => ?_; simp) | (with_reducible refine segs_nil ?_; try simp only [thn, blk]) | (with_reducible refine segs_two fun K hK => ?_; simp only [List.take_succ_cons, List.take_zero]) | (with_reducible refine draw_step fun K hK => ?_; simp) | (with_reducible refine draw_end ?_) | (with_reducible refine rechk_nil ?_; simp only [List.drop_succ_cons, List.drop_zero]; simp only [stS, eT, eO, List.cons_append, List.nil_append, cond_true, cond_false, Bool.and_true, Bool.and_false, Bool.true_and, Bool.false_and]) | (with_reducible refine rechk_cons ?_ ?_; (· (simp <;> first | omega | grind))) | refine And.intro (by first | omega | assumption | grind) ?_)
      refine awp_cond rfl (fun _ => ?_) (fun h => by simp at h)
      repeat (first | (with_reducible first | refine awp_seqK fun K hK => ?_ | refine awp_block ?_) | ((with_reducible first | refine awp_region (by kernel_rfl) ?_ | refine gcall_tt ?_ | refine gcall_ff ?_ | refine gcall_tf ?_ | refine gcall_ft ?_ | refine gcallE_tt ?_ | refine gcallE_ff ?_ | refine gcallE_tf ?_ | refine gcallE_ft ?_ | refine awp_skip ?_ | refine awp_exit ?_); simp) | ((repeat ((fail_if_success ((with_reducible first | refine hK _ ?_ | refine hK _ _ _ _ ?_))); clear hK)); (with_reducible first | refine hK _ ?_ | refine hK _ _ _ _ ?_); clear hK) | (with_reducible refine segs_one fun K hK => ?_; simp) | (with_reducible refine segs_nil ?_; try simp only [thn, blk]) | (with_reducible refine segs_two fun K hK => ?_; simp only [List.take_succ_cons, List.take_zero]) | (with_reducible refine draw_step fun K hK => ?_; simp) | (with_reducible refine draw_end ?_) | (with_reducible refine rechk_nil ?_; simp only [List.drop_succ_cons, List.drop_zero]; simp only [stS, eT, eO, List.cons_append, List.nil_append, cond_true, cond_false, Bool.and_true, Bool.and_false, Bool.true_and, Bool.false_and]) | (with_reducible refine rechk_cons ?_ ?_; (· (simp <;> first | omega | grind))) | refine And.intro (by first | omega | assumption | grind) ?_)
      refine awp_ret ?_
      simp
theorem sai_ok (n : Int) : Meets Tryd.prog 132 [.int .i64 n] (.bool (decide (8 < n))) := by
  refine Meets.of Tryd.func132 rfl (by kernel_rfl) rfl ?_
  simp only [Tryd.ntmps132, St.start, argT]
  repeat (first | (with_reducible first | refine awp_seqK fun K hK => ?_ | refine awp_block ?_) | ((with_reducible first | refine awp_region (by kernel_rfl) ?_ | refine gcall_tt ?_ | refine gcall_ff ?_ | refine gcall_tf ?_ | refine gcall_ft ?_ | refine awp_skip ?_ | refine awp_exit ?_); simp) | ((repeat ((fail_if_success ((with_reducible refine hK _ ?_))); clear hK)); (with_reducible refine hK _ ?_); clear hK) | refine And.intro (by first | omega | assumption | grind) ?_)
  refine awp_ret ?_
  simp
theorem seps_low : ∀ c ∈ seps, c.toNat < 128 := by decide
theorem any_long (s : Str) (h8 : 8 < s.length) (hl : s.length < 4294967281) : Meets Tryd.prog 114 [.str s, .str seps] (.int .i64 (Lib.indexAny s seps)) := by
  refine Meets.str2 (val := .int .i64 (Lib.indexAny s seps)) (by kernel_rfl) (fun n => rfl) (fun M w X n => .int _ _ _) fun w _ => ?_
  have hq : (Tryd.prog.info? (anyLays_ren.t 116)).map (fun i => (i.zero, i.size)) = some (some (.agg (Array.replicate 256 (.bool false))), 256) := by kernel_rfl
  have h116 := zero_of_info hq
  refine (Any.strings_IndexAny_long anyLays h116.1 h116.2 ⟨s.toArray⟩ ⟨seps.toArray⟩ w (by decide) (by simpa [ByteArray.size] using h8) (by simpa [ByteArray.size] using hl) (by decide) (fun j b hb => ?_)).mono ?_
  · rw [bytes_list] at hb
    exact seps_low b (List.mem_of_getElem? hb)
  · rintro e w' ⟨rfl, rfl⟩
    rw [bytes_list, bytes_list]
    exact ⟨rfl, ((Below.refl _ _).alloc (Nat.le_refl _) _).alloc (by simp) _⟩
theorem noAny_skip {s : Str} {p : Nat} (h : Lib.NoAny s seps p) : ∀ (w : Nat), (∀ j, j < w → 128 ≤ (s.getD (p + j) 0).toNat) → Lib.NoAny s seps (p + w)
  | 0, _ => h
  | w + 1, hw => by
    intro j b hj hb
    by_cases e : j = p + w
    · subst e
      have := hw w (by omega)
      rw [List.getD_eq_getElem?_getD, hb, Option.getD_some] at this
      rw [Bool.eq_false_iff]
      intro q
      have := seps_low b (by simpa using q)
      omega
    · exact noAny_skip h w (fun j hj => hw j (by omega)) j b (by omega) hb
set_option maxHeartbeats 16000000 in
theorem any_short (s : Str) (h8 : s.length ≤ 8) : Meets Tryd.prog 114 [.str s, .str seps] (.int .i64 (Lib.indexAny s seps)) := by
  have hsn : seps.isEmpty = false := rfl
  have h8' : ¬ ((8 : Int) < s.length) := by omega
  refine Meets.of Tryd.func114 rfl (by kernel_rfl) rfl ?_
  simp only [Tryd.ntmps114, St.start, argT]
  repeat (first | (with_reducible first | refine awp_seqK fun K hK => ?_ | refine awp_block ?_) | ((with_reducible first | refine awp_region (by kernel_rfl) ?_ | refine gcall_tt ?_ | refine gcall_ff ?_ | refine gcall_tf ?_ | refine gcall_ft ?_ | refine awp_skip ?_ | refine awp_exit ?_); simp [seps_len, hsn]) | ((repeat ((fail_if_success ((with_reducible refine hK _ ?_))); clear hK)); (with_reducible refine hK _ ?_); clear hK) | refine And.intro (by first | omega | assumption | grind) ?_)
  refine awp_cond rfl (fun h => by simp [seps_len, hsn] at h) (fun _ => ?_)
  repeat (first | (with_reducible first | refine awp_seqK fun K hK => ?_ | refine awp_block ?_) | ((with_reducible first | refine awp_region (by kernel_rfl) ?_ | refine gcall_tt ?_ | refine gcall_ff ?_ | refine gcall_tf ?_ | refine gcall_ft ?_ | refine awp_skip ?_ | refine awp_exit ?_); simp [seps_len]) | ((repeat ((fail_if_success ((with_reducible refine hK _ ?_))); clear hK)); (with_reducible refine hK _ ?_); clear hK) | refine And.intro (by first | omega | assumption | grind) ?_)
  refine awp_cond rfl (fun h => by simp [seps_len] at h) (fun _ => ?_)
  repeat (first | (with_reducible first | refine awp_seqK fun K hK => ?_ | refine awp_block ?_) | ((with_reducible first | refine awp_region (by kernel_rfl) ?_ | refine gcall_tt ?_ | refine gcall_ff ?_ | refine gcall_tf ?_ | refine gcall_ft ?_ | refine awp_skip ?_ | refine awp_exit ?_); simp [seps_len]) | ((repeat ((fail_if_success ((with_reducible refine hK _ ?_))); clear hK)); (with_reducible refine hK _ ?_); clear hK) | refine And.intro (by first | omega | assumption | grind) ?_)
  first | refine .inl ⟨0, _, sai_ok s.length, ?_⟩ | refine .inl ⟨0, _, Meets.wk (sai_ok s.length) (by simp), ?_⟩ | refine ⟨0, _, sai_ok s.length, ?_⟩ | refine ⟨0, _, Meets.wk (sai_ok s.length) (by simp), ?_⟩
  simp [aftC, aftE]
  repeat (first | (with_reducible first | refine awp_seqK fun K hK => ?_ | refine awp_block ?_) | ((with_reducible first | refine awp_region (by kernel_rfl) ?_ | refine gcall_tt ?_ | refine gcall_ff ?_ | refine gcall_tf ?_ | refine gcall_ft ?_ | refine awp_skip ?_ | refine awp_exit ?_); simp) | ((repeat ((fail_if_success ((with_reducible refine hK _ ?_))); clear hK)); (with_reducible refine hK _ ?_); clear hK) | refine And.intro (by first | omega | assumption | grind) ?_)
  refine awp_cond rfl (fun h => by simp [h8'] at h) (fun _ => ?_)
  repeat (first | (with_reducible first | refine awp_seqK fun K hK => ?_ | refine awp_block ?_) | ((with_reducible first | refine awp_region (by kernel_rfl) ?_ | refine gcall_tt ?_ | refine gcall_ff ?_ | refine gcall_tf ?_ | refine gcall_ft ?_ | refine awp_skip ?_ | refine awp_exit ?_); simp) | ((repeat ((fail_if_success ((with_reducible refine hK _ ?_))); clear hK)); (with_reducible refine hK _ ?_); clear hK) | refine And.intro (by first | omega | assumption | grind) ?_)
  obtain ⟨I, hI⟩ : ∃ I : Nat → St → Prop, I = (fun kk ss => ∃ (i : Nat) (p : Nat), i ≤ s.length ∧ kk = s.length - i ∧ (i ≤ p ∧ p ≤ s.length ∧ Lib.NoAny s seps p) ∧ ss = ⟨55, [(45, .itr 1), (1, .str seps)], 2, [(1, some ⟨0, 2, false, false, [[.str s, .int .i64 p]]⟩)], 0⟩) := ⟨_, rfl⟩
  refine awp_loopA I (k0 := s.length) (st0 := (fun (i : Nat) (p : Nat) => (⟨55, [(45, .itr 1), (1, .str seps)], 2, [(1, some ⟨0, 2, false, false, [[.str s, .int .i64 p]]⟩)], 0⟩ : St)) 0 0) (ρ0 := id) ⟨rfl, by simp [leT, ltV, lt1, ren, ren1], by simp [leO, lt1, ren1], by simp, by simp⟩ (by rw [hI]; exact ⟨0, 0, by simp, by simp, ⟨Nat.le_refl _, Nat.zero_le _, Lib.NoAny.zero _ _⟩, rfl⟩) ?_
  intro kk ss hIk _
  rw [hI] at hIk
  obtain ⟨i, p, hi, rfl, hx, rfl⟩ := hIk
  obtain ⟨hip, hpl, hno⟩ := hx
  by_cases hi : p < s.length
  · obtain ⟨c, hc⟩ : ∃ c, c = s.getD p 0 := ⟨_, rfl⟩
    have hcs : s[p]? = some c := by rw [hc, List.getD_eq_getElem?_getD, List.getElem?_eq_getElem hi]; rfl
    by_cases hca : c.toNat < 128
    · have hru := rune_ascii s p hi (by rw [← hc]; exact hca)
      rw [← hc] at hru
      have hnx : nxV s p = .tup [.bool true, .int .i64 p, .int .i32 c.toNat] := by unfold nxV; rw [if_pos hi, hru]
      have hnp : nxP s p = p + 1 := by unfold nxP; rw [if_pos hi, hru]
      repeat (first | (with_reducible first | refine awp_seqK fun K hK => ?_ | refine awp_block ?_) | ((with_reducible first | refine awp_region (by kernel_rfl) ?_ | refine gcall_tt ?_ | refine gcall_ff ?_ | refine gcall_tf ?_ | refine gcall_ft ?_ | refine awp_skip ?_ | refine awp_exit ?_); simp [hnx, hnp]) | ((repeat ((fail_if_success ((with_reducible refine hK _ ?_))); clear hK)); (with_reducible refine hK _ ?_); clear hK) | refine And.intro (by first | omega | assumption | grind) ?_)
      refine awp_cond rfl (fun _ => ?_) (fun h => by simp at h)
      repeat (first | (with_reducible first | refine awp_seqK fun K hK => ?_ | refine awp_block ?_) | ((with_reducible first | refine awp_region (by kernel_rfl) ?_ | refine gcall_tt ?_ | refine gcall_ff ?_ | refine gcall_tf ?_ | refine gcall_ft ?_ | refine awp_skip ?_ | refine awp_exit ?_); simp [hnx, hnp]) | ((repeat ((fail_if_success ((with_reducible refine hK _ ?_))); clear hK)); (with_reducible refine hK _ ?_); clear hK) | refine And.intro (by first | omega | assumption | grind) ?_)
      first | refine .inl ⟨0, _, irune_lo seps c hca, ?_⟩ | refine .inl ⟨0, _, Meets.wk (irune_lo seps c hca) (by simp), ?_⟩ | refine ⟨0, _, irune_lo seps c hca, ?_⟩ | refine ⟨0, _, Meets.wk (irune_lo seps c hca) (by simp), ?_⟩
      simp [aftC, aftE]
      repeat (first | (with_reducible first | refine awp_seqK fun K hK => ?_ | refine awp_block ?_) | ((with_reducible first | refine awp_region (by kernel_rfl) ?_ | refine gcall_tt ?_ | refine gcall_ff ?_ | refine gcall_tf ?_ | refine gcall_ft ?_ | refine awp_skip ?_ | refine awp_exit ?_); simp) | ((repeat ((fail_if_success ((with_reducible refine hK _ ?_))); clear hK)); (with_reducible refine hK _ ?_); clear hK) | refine And.intro (by first | omega | assumption | grind) ?_)
      cases hct : seps.contains c with
      | true =>
        have hq : 0 ≤ Lib.indexByte seps c := by
          have : ∀ n < 128, seps.contains (UInt8.ofNat n) = true → 0 ≤ Lib.indexByte seps (UInt8.ofNat n) := by decide
          have h1 := this c.toNat hca
          rw [UInt8.ofNat_toNat] at h1
          exact h1 hct
        have hit := Lib.indexAny_hit hno hcs hct
        refine awp_cond rfl (fun _ => ?_) (fun h => by simp [hq] at h)
        repeat (first | (with_reducible first | refine awp_seqK fun K hK => ?_ | refine awp_block ?_) | ((with_reducible first | refine awp_region (by kernel_rfl) ?_ | refine gcall_tt ?_ | refine gcall_ff ?_ | refine gcall_tf ?_ | refine gcall_ft ?_ | refine awp_skip ?_ | refine awp_exit ?_); simp) | ((repeat ((fail_if_success ((with_reducible refine hK _ ?_))); clear hK)); (with_reducible refine hK _ ?_); clear hK) | refine And.intro (by first | omega | assumption | grind) ?_)
        refine awp_ret ?_
        simp [hit]
      | false =>
        have hq : ¬ 0 ≤ Lib.indexByte seps c := by
          have : ∀ n < 128, seps.contains (UInt8.ofNat n) = false → ¬ 0 ≤ Lib.indexByte seps (UInt8.ofNat n) := by decide
          have h1 := this c.toNat hca
          rw [UInt8.ofNat_toNat] at h1
          exact h1 hct
        refine awp_cond rfl (fun h => by simp [hq] at h) (fun _ => ?_)
        repeat (first | (with_reducible first | refine awp_seqK fun K hK => ?_ | refine awp_block ?_) | ((with_reducible first | refine awp_region (by kernel_rfl) ?_ | refine gcall_tt ?_ | refine gcall_ff ?_ | refine gcall_tf ?_ | refine gcall_ft ?_ | refine awp_skip ?_ | refine awp_exit ?_); simp) | ((repeat ((fail_if_success ((with_reducible refine hK _ ?_))); clear hK)); (with_reducible refine hK _ ?_); clear hK) | refine And.intro (by first | omega | assumption | grind) ?_)
        refine again_of (s.length - (i + 1)) ((fun (i : Nat) (p : Nat) => (⟨55, [(45, .itr 1), (1, .str seps)], 2, [(1, some ⟨0, 2, false, false, [[.str s, .int .i64 p]]⟩)], 0⟩ : St)) (i + 1) (p + 1)) (id) (by omega) (by rw [hI]; exact ⟨i + 1, (p + 1), by omega, rfl, ⟨by omega, by omega, hno.succ hcs hct⟩, rfl⟩) ⟨rfl, ?_, ?_, ?_, by simp⟩
        · simp [leT, ltV, lt1, ren, ren1, wrap_i64_in (n := (i : Int) + 1) (by omega) (by omega), hnp]
        · simp [leO, lt1, ren1, hnp]
        · (simp; try omega)
    · obtain ⟨r, w, hru, r1, r2, r3, w1, w2, w3⟩ := rune_high s p hi (by rw [← hc]; omega)
      have hnx : nxV s p = .tup [.bool true, .int .i64 p, .int .i32 r] := by unfold nxV; rw [if_pos hi, hru]
      have hnp : nxP s p = p + w := by unfold nxP; rw [if_pos hi, hru]
      repeat (first | (with_reducible first | refine awp_seqK fun K hK => ?_ | refine awp_block ?_) | ((with_reducible first | refine awp_region (by kernel_rfl) ?_ | refine gcall_tt ?_ | refine gcall_ff ?_ | refine gcall_tf ?_ | refine gcall_ft ?_ | refine awp_skip ?_ | refine awp_exit ?_); simp [hnx, hnp]) | ((repeat ((fail_if_success ((with_reducible refine hK _ ?_))); clear hK)); (with_reducible refine hK _ ?_); clear hK) | refine And.intro (by first | omega | assumption | grind) ?_)
      refine awp_cond rfl (fun _ => ?_) (fun h => by simp at h)
      repeat (first | (with_reducible first | refine awp_seqK fun K hK => ?_ | refine awp_block ?_) | ((with_reducible first | refine awp_region (by kernel_rfl) ?_ | refine gcall_tt ?_ | refine gcall_ff ?_ | refine gcall_tf ?_ | refine gcall_ft ?_ | refine awp_skip ?_ | refine awp_exit ?_); simp [hnx, hnp]) | ((repeat ((fail_if_success ((with_reducible refine hK _ ?_))); clear hK)); (with_reducible refine hK _ ?_); clear hK) | refine And.intro (by first | omega | assumption | grind) ?_)
      first | refine .inl ⟨0, _, irune_hi r (by omega) (by omega) r3, ?_⟩ | refine .inl ⟨0, _, Meets.wk (irune_hi r (by omega) (by omega) r3) (by simp), ?_⟩ | refine ⟨0, _, irune_hi r (by omega) (by omega) r3, ?_⟩ | refine ⟨0, _, Meets.wk (irune_hi r (by omega) (by omega) r3) (by simp), ?_⟩
      simp [aftC, aftE]
      repeat (first | (with_reducible first | refine awp_seqK fun K hK => ?_ | refine awp_block ?_) | ((with_reducible first | refine awp_region (by kernel_rfl) ?_ | refine gcall_tt ?_ | refine gcall_ff ?_ | refine gcall_tf ?_ | refine gcall_ft ?_ | refine awp_skip ?_ | refine awp_exit ?_); simp) | ((repeat ((fail_if_success ((with_reducible refine hK _ ?_))); clear hK)); (with_reducible refine hK _ ?_); clear hK) | refine And.intro (by first | omega | assumption | grind) ?_)
      refine awp_cond rfl (fun h => by simp at h) (fun _ => ?_)
      repeat (first | (with_reducible first | refine awp_seqK fun K hK => ?_ | refine awp_block ?_) | ((with_reducible first | refine awp_region (by kernel_rfl) ?_ | refine gcall_tt ?_ | refine gcall_ff ?_ | refine gcall_tf ?_ | refine gcall_ft ?_ | refine awp_skip ?_ | refine awp_exit ?_); simp) | ((repeat ((fail_if_success ((with_reducible refine hK _ ?_))); clear hK)); (with_reducible refine hK _ ?_); clear hK) | refine And.intro (by first | omega | assumption | grind) ?_)
      refine again_of (s.length - (i + 1)) ((fun (i : Nat) (p : Nat) => (⟨55, [(45, .itr 1), (1, .str seps)], 2, [(1, some ⟨0, 2, false, false, [[.str s, .int .i64 p]]⟩)], 0⟩ : St)) (i + 1) (p + w)) (id) (by omega) (by rw [hI]; exact ⟨i + 1, (p + w), by omega, rfl, ⟨by omega, by omega, noAny_skip hno w w3⟩, rfl⟩) ⟨rfl, ?_, ?_, ?_, by simp⟩
      · simp [leT, ltV, lt1, ren, ren1, wrap_i64_in (n := (i : Int) + 1) (by omega) (by omega), hnp]
      · simp [leO, lt1, ren1, hnp]
      · (simp; try omega)
  · have hil : p = s.length := by omega
    subst hil
    have hnx : nxV s s.length = .tup [.bool false] := by unfold nxV; rw [if_neg (by omega)]
    have hnp : nxP s s.length = s.length := by unfold nxP; rw [if_neg (by omega)]
    have hn := Lib.indexAny_none hno
    repeat (first | (with_reducible first | refine awp_seqK fun K hK => ?_ | refine awp_block ?_) | ((with_reducible first | refine awp_region (by kernel_rfl) ?_ | refine gcall_tt ?_ | refine gcall_ff ?_ | refine gcall_tf ?_ | refine gcall_ft ?_ | refine awp_skip ?_ | refine awp_exit ?_); simp [hnx, hnp]) | ((repeat ((fail_if_success ((with_reducible refine hK _ ?_))); clear hK)); (with_reducible refine hK _ ?_); clear hK) | refine And.intro (by first | omega | assumption | grind) ?_)
    refine awp_cond rfl (fun h => by simp at h) (fun _ => ?_)
    repeat (first | (with_reducible first | refine awp_seqK fun K hK => ?_ | refine awp_block ?_) | ((with_reducible first | refine awp_region (by kernel_rfl) ?_ | refine gcall_tt ?_ | refine gcall_ff ?_ | refine gcall_tf ?_ | refine gcall_ft ?_ | refine awp_skip ?_ | refine awp_exit ?_); simp) | ((repeat ((fail_if_success ((with_reducible refine hK _ ?_))); clear hK)); (with_reducible refine hK _ ?_); clear hK) | refine And.intro (by first | omega | assumption | grind) ?_)
    refine awp_ret ?_
    simp [hn]
theorem anyAll_ok (s : Str) (hl : s.length < 4294967281) : Meets Tryd.prog 114 [.str s, .str seps] (.int .i64 (Lib.indexAny s seps)) := by
  by_cases h8 : 8 < s.length
  · exact any_long s h8 hl
  · exact any_short s (by omega)
end Go.Proofs.YtjlbpkokdlggiaaDoor
