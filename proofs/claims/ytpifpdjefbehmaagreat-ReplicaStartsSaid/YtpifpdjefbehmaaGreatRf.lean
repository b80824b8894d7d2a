/- Replicas, the document's side: NewReplayer, May, Primary, Backup. -/
import Derived.Test.YtpifpdjefbehmaaGreatRe
namespace Go.Proofs.YtpifpdjefbehmaaGreat
open Go.Ab Go.RowKit
set_option linter.unusedSimpArgs false
set_option maxRecDepth 100000
set_option maxHeartbeats 8000000
theorem rrplNew_ok (m : MchD) (h1 : m.mem.length ≤ 100000) : Meets Tryz.prog 24 [.st m.row] (.st (RplD.row ⟨m, [], m.count, 0⟩)) := by
  refine Meets.of Tryz.func24 rfl (by kernel_rfl) rfl ?_
  simp only [Tryz.ntmps24, St.start, argT]
  refine au ?_
  repeat intro K hK
  refine wr ?_
  refine awp_planI ([0, 1, 2, 3, 4, 5] : List Nat) ([[], [0], [], [2], [0, 1, 2, 3], [0, 1, 2, 3, 4]] : List (List Nat)) ([(4, ([[], [0], [], [2]], [(3, 1)])), (1, ([], [])), (1, ([], []))] : List (Nat × List (List Nat) × List (Nat × Nat))) (by kernel_rfl) (by kernel_rfl) (by kernel_rfl) ?_
  refine af ?_
  repeat intro K hK
  refine wr ?_
  refine cc (rown_ok m h1) ?_
  refine af ?_
  repeat intro K hK
  refine wr ?_
  refine awp_fzA ?_
  refine awp_ret ?_
  simp
/-- whether a set of frames has the frame i -/
def hasF (g : Int) (i : Nat) : Bool := g.toNat.testBit i
theorem bitE (g : Int) (i : Nat) (hi : i < 32) (h0 : 0 ≤ g) (h1 : g ≤ 4294967295) : (IntKind.u32.wrap (((g.fdiv (2 ^ min i IntKind.u32.bits) % 2 ^ IntKind.u32.bits).toNat &&& 1 % 2 ^ IntKind.u32.bits : Nat) : Int) == 1) = hasF g i := by
  have e1 : min i IntKind.u32.bits = i := by show min i 32 = i; omega
  rw [e1, Int.fdiv_eq_ediv_of_nonneg _ (by exact Int.pow_nonneg (by decide))]
  obtain ⟨n, rfl⟩ : ∃ n : Nat, g = n := ⟨g.toNat, by omega⟩
  have e2 : ((n : Int) / 2 ^ i % 2 ^ IntKind.u32.bits).toNat = n / 2 ^ i := by
    have : ((n : Int) / 2 ^ i) = ((n / 2 ^ i : Nat) : Int) := by simp
    rw [this]
    have hle : n / 2 ^ i ≤ n := Nat.div_le_self _ _
    generalize n / 2 ^ i = y at hle ⊢
    rw [Int.emod_eq_of_lt (by omega) (by show (y : Int) < 4294967296; omega)]
    simp
  have e3 : 1 % 2 ^ IntKind.u32.bits = 1 := by decide
  rw [e2, e3, Nat.and_one_is_mod]
  unfold hasF
  rw [Int.toNat_natCast, Nat.testBit_eq_decide_div_mod_eq, IntKind.wrap_u32]
  by_cases h : n / 2 ^ i % 2 = 1
  · rw [h]; simp
  · have h' : n / 2 ^ i % 2 = 0 := by omega
    rw [h']; simp
theorem len_lt (n q : Nat) (hn : n < 4294967296) : Lib.bitLen n ≤ q ↔ n < 2 ^ q := by
  constructor
  · intro hb
    apply Classical.byContradiction
    intro hc
    have hc : 2 ^ q ≤ n := Nat.le_of_not_lt hc
    have h2 := Lib.bitLen_shift q n hc (by omega)
    have h3 : 0 < n / 2 ^ q := Nat.div_pos hc (Nat.two_pow_pos q)
    have h5 := Nat.div_le_self n (2 ^ q)
    generalize n / 2 ^ q = y at h2 h3 h5
    have h4 := Lib.bitLen_half y (by omega) (by omega)
    omega
  · intro hlt
    by_cases hq64 : q ≤ 64
    · exact Lib.bitLen_le n q hq64 hlt
    · have := Lib.bitLen_le n 64 (by omega) (by omega); omega
theorem lt_bits (n q : Nat) (hn : n < 4294967296) : n < 2 ^ q ↔ ∀ j < 32, n.testBit j = true → j < q := by
  constructor
  · intro hlt j _ ht
    apply Classical.byContradiction
    intro hc
    have : n < 2 ^ j := Nat.lt_of_lt_of_le hlt (Nat.pow_le_pow_right (by decide) (by omega))
    rw [Nat.testBit_lt_two_pow this] at ht
    cases ht
  · intro h
    apply Nat.lt_pow_two_of_testBit
    intro j hj
    by_cases hj' : j < 32
    · cases hb : n.testBit j with
      | false => rfl
      | true => have := h j hj' hb; omega
    · exact Nat.testBit_lt_two_pow (Nat.lt_of_lt_of_le (show n < 2 ^ 32 by omega) (Nat.pow_le_pow_right (by decide) (by omega)))
theorem hasF_len (g p : Int) (h0 : 0 ≤ g) (h1 : g ≤ 4294967295) : balMay g p = true ↔ ∀ j < 32, hasF g j = true → (j : Int) < p := by
  have e : balMay g p = true ↔ Lib.bitLen g.toNat ≤ p.toNat := by
    have : max p 0 = (p.toNat : Int) := by omega
    unfold balMay bitLen
    rw [this, decide_eq_true_eq]
    omega
  rw [e, len_lt _ _ (by omega), lt_bits _ _ (by omega)]
  unfold hasF
  constructor
  · intro h j hj ht; have := h j hj ht; omega
  · intro h j hj ht; have := h j hj ht; omega
theorem rbalMay_ok (a g p : Int) (h0 : 0 ≤ g) (h1 : g ≤ 4294967295) : Meets Tryz.prog 95 [.st [uv a, uv g], iv p] (.bool (balMay g p)) := by
  refine Meets.of Tryz.func95 rfl (by kernel_rfl) rfl ?_
  simp only [Tryz.ntmps95, St.start, argT]
  refine au ?_
  repeat intro K hK
  refine wr ?_
  obtain ⟨I, hI⟩ : ∃ I : Nat → St → Prop, I = (fun kk ss => ∃ (i : Nat) , i ≤ 32 ∧ kk = 32 - i ∧ (∀ j < i, hasF g j = true → (j : Int) < p) ∧ ss = ⟨22, [(5, .int .i64 i), (2, .ptr 0 2 0 0), (1, iv p)], 1, [(0, some ⟨37, 2, true, false, [[uv a, uv g]]⟩)], 0⟩) := ⟨_, rfl⟩
  refine awp_loopA I (k0 := 32) (st0 := (fun (i : Nat)  => (⟨22, [(5, .int .i64 i), (2, .ptr 0 2 0 0), (1, iv p)], 1, [(0, some ⟨37, 2, true, false, [[uv a, uv g]]⟩)], 0⟩ : St)) 0 ) (ρ0 := id) ⟨rfl, by simp [leT, ltV, lt1, ren, ren1], by simp [leO, lt1, ren1], by simp, by simp⟩ (by rw [hI]; exact ⟨0, by simp, by simp, by simp, rfl⟩) ?_
  intro kk ss hIk _
  rw [hI] at hIk
  obtain ⟨i, hi, rfl, hx, rfl⟩ := hIk
  refine au ?_
  repeat intro K hK
  refine wr ?_
  refine awp_cond rfl (fun h => ?_) (fun h => ?_)
  · simp at h
    have hw : IntKind.u64.wrap (i : Int) = i := by rw [IntKind.wrap_u64]; omega
    have hb := bitE g i (by omega) h0 h1
    refine au3 @iand.eq_1 @hw @hb ?_
    repeat intro K hK
    refine wr ?_
    refine awp_cond rfl (fun h2 => ?_) (fun h2 => ?_)
    · simp at h2
      have hf : balMay g p = false := by
        cases hc : balMay g p with
        | false => rfl
        | true => have := (hasF_len g p h0 h1).1 hc i (by omega) h2.1; omega
      refine au ?_
      repeat intro K hK
      refine wr ?_
      refine awp_ret ?_
      simp [hf]
    · simp at h2
      have hnew : ∀ j < i + 1, hasF g j = true → (j : Int) < p := fun j hj hh => by
        by_cases e : j = i
        · subst e; exact h2 hh
        · exact hx j (by omega) hh
      refine au ?_
      repeat intro K hK
      refine wr ?_
      refine again_of (32 - (i + 1)) ((fun (i : Nat)  => (⟨22, [(5, .int .i64 i), (2, .ptr 0 2 0 0), (1, iv p)], 1, [(0, some ⟨37, 2, true, false, [[uv a, uv g]]⟩)], 0⟩ : St)) (i + 1) ) (id) (by omega) (by rw [hI]; exact ⟨i + 1, by omega, rfl, hnew, rfl⟩) ⟨rfl, ?_, ?_, ?_, by simp⟩
      · simp [leT, ltV, lt1, ren, ren1, wrap_i64_in (n := (i : Int) + 1) (by omega) (by omega)]
      · simp [leO, lt1, ren1]
      · (simp; try omega)
  · simp at h
    have hi : i = 32 := by omega
    subst hi
    have hf : balMay g p = true := (hasF_len g p h0 h1).2 hx
    refine au ?_
    repeat intro K hK
    refine wr ?_
    refine awp_ret ?_
    simp [hf]
theorem pages_nn (l : List Int) : 0 ≤ pagesD l := by
  unfold pagesD
  split
  · rw [wrap_i64_in (by omega) (by omega)]; omega
  · omega
theorem pages_lt (l : List Int) : decide (pagesD l < 1) = (pagesD l == 0) := by
  have := pages_nn l
  rw [Bool.eq_iff_iff, decide_eq_true_eq, beq_iff_eq]
  omega
theorem rmay_ok (m : MchD) (h0 : 0 ≤ m.given) (h1 : m.given ≤ 4294967295) : Meets Tryz.prog 49 [.st m.row] (.bool (mayD m)) := by
  refine Meets.of Tryz.func49 rfl (by kernel_rfl) rfl ?_
  simp only [Tryz.ntmps49, St.start, argT]
  refine au ?_
  repeat intro K hK
  refine wr ?_
  (refine au2 @pages_lt @mayD.eq_1 ?_; (repeat intro K hK); refine wr ?_)
  repeat' ((first | (refine awp_cond rfl (fun h => ?_) (fun h => ?_) <;> (first | (simp [pages_lt, mayD] at h; done) | (simp [pages_lt, mayD] at h) | skip) <;> (first | (exfalso; omega) | skip)) | refine cc2 (rpages_ok m.mem) @pages_lt @mayD.eq_1 ?_ | refine cc2 (rconMay_ok m.keys) @pages_lt @mayD.eq_1 ?_ | refine cc2 (rtimMay_ok m.tim) @pages_lt @mayD.eq_1 ?_ | refine cc2 (rdskMay_ok m.dk (pagesD m.mem)) @pages_lt @mayD.eq_1 ?_ | refine cc2 (rnicMay_ok m.nc (pagesD m.mem)) @pages_lt @mayD.eq_1 ?_ | refine cc2 (rbalMay_ok m.tgt m.given (pagesD m.mem) h0 h1) @pages_lt @mayD.eq_1 ?_ | exact rt2 @pages_lt @mayD.eq_1 | fail) <;> (refine au2 @pages_lt @mayD.eq_1 ?_; (repeat intro K hK); refine wr ?_))
end Go.Proofs.YtpifpdjefbehmaaGreat
