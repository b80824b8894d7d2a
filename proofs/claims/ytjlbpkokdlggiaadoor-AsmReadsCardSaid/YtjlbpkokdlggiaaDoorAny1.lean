/- Strings that need not be ASCII: what a rune's bytes are; IndexAny of any string. (Numbers of seat r2.D.) -/
import Derived.Test.YtjlbpkokdlggiaaDoorAs1h
import Derived.Laws.RangeAny
namespace Go.Proofs.YtjlbpkokdlggiaaDoor
open Go.Ab Go.RowKit
set_option linter.unusedSimpArgs false
set_option maxRecDepth 100000
theorem get_list (s : Str) (i : Nat) (h : i < s.length) : ((⟨s.toArray⟩ : ByteArray).get! i).toNat = (s.getD i 0).toNat := by
  have e : (⟨s.toArray⟩ : ByteArray).get! i = s.getD i 0 := by
    rw [List.getD_eq_getElem?_getD, List.getElem?_eq_getElem h]
    simp [ByteArray.get!, getElem!_pos, h]
  rw [e]
set_option maxHeartbeats 1000000 in
/-- a byte above 127 begins a rune above 127, all of whose bytes are above 127 -/
theorem rune_high (s : Str) (i : Nat) (h : i < s.length) (hb : 128 ≤ (s.getD i 0).toNat) :
    ∃ r w, runeAt s i = (r, w) ∧ 128 ≤ r ∧ r ≤ 1114111 ∧ Utf8.valid r = true ∧ 1 ≤ w ∧ i + w ≤ s.length ∧ ∀ j, j < w → 128 ≤ (s.getD (i + j) 0).toNat := by
  have hsz : (⟨s.toArray⟩ : ByteArray).size = s.length := by simp [ByteArray.size]
  have hone : ∀ j, j < 1 → 128 ≤ (s.getD (i + j) 0).toNat := fun j hj => by
    obtain rfl : j = 0 := by omega
    exact hb
  have hct : ∀ k, i + k < s.length → ((⟨s.toArray⟩ : ByteArray).get! (i + k)).toNat / 64 = 2 → 128 ≤ (s.getD (i + k) 0).toNat := fun k hk h2 => by
    rw [get_list s _ hk] at h2; omega
  have herr : Utf8.valid (Utf8.runeError : Nat) = true := by decide
  have hval : ∀ c : Nat, Utf8.valid c = true → c ≤ 1114111 := fun c hc => by
    simp only [Utf8.valid, Bool.or_eq_true, Bool.and_eq_true, decide_eq_true_eq] at hc; omega
  have h0 : ((⟨s.toArray⟩ : ByteArray).get! (i + 0)).toNat = (s.getD i 0).toNat := get_list s i h
  have hn : ¬ (s.getD i 0).toNat < 128 := by omega
  have hlt := (s.getD i 0).toNat_lt
  generalize hd : runeAt s i = d
  simp only [runeAt, Utf8.decode, h0, hn, if_false, hsz] at hd
  have hbad : ∀ {d : Nat × Nat}, (Utf8.runeError, 1) = d → ∃ r w, d = (r, w) ∧ 128 ≤ r ∧ r ≤ 1114111 ∧ Utf8.valid r = true ∧ 1 ≤ w ∧ i + w ≤ s.length ∧ ∀ j, j < w → 128 ≤ (s.getD (i + j) 0).toNat := by
    rintro d rfl
    exact ⟨_, 1, rfl, by decide, by decide, herr, by omega, by omega, hone⟩
  split at hd
  · rename_i hc
    simp only [Bool.and_eq_true, decide_eq_true_eq, beq_iff_eq] at hc
    obtain ⟨q0, q1, q2⟩ := hc
    split at hd
    · rename_i hr
      subst hd
      refine ⟨_, 2, rfl, hr, by omega, ?_, by omega, by omega, fun j hj => ?_⟩
      · simp only [Utf8.valid, Bool.or_eq_true, Bool.and_eq_true, decide_eq_true_eq]
        left; constructor <;> omega
      · rcases (show j = 0 ∨ j = 1 by omega) with rfl | rfl
        · exact hb
        · exact hct 1 q1 q2
    · exact hbad hd
  · split at hd
    · rename_i hc
      simp only [Bool.and_eq_true, decide_eq_true_eq, beq_iff_eq] at hc
      obtain ⟨⟨q0, q1, q2⟩, q3, q4⟩ := hc
      split at hd
      · rename_i hr
        simp only [Bool.and_eq_true, decide_eq_true_eq] at hr
        subst hd
        refine ⟨_, 3, rfl, by omega, hval _ hr.2, hr.2, by omega, by omega, fun j hj => ?_⟩
        rcases (show j = 0 ∨ j = 1 ∨ j = 2 by omega) with rfl | rfl | rfl
        · exact hb
        · exact hct 1 q1 q2
        · exact hct 2 q3 q4
      · exact hbad hd
    · split at hd
      · rename_i hc
        simp only [Bool.and_eq_true, decide_eq_true_eq, beq_iff_eq] at hc
        obtain ⟨⟨⟨q0, q1, q2⟩, q3, q4⟩, q5, q6⟩ := hc
        split at hd
        · rename_i hr
          simp only [Bool.and_eq_true, decide_eq_true_eq] at hr
          subst hd
          refine ⟨_, 4, rfl, by omega, hval _ hr.2, hr.2, by omega, by omega, fun j hj => ?_⟩
          rcases (show j = 0 ∨ j = 1 ∨ j = 2 ∨ j = 3 by omega) with rfl | rfl | rfl | rfl
          · exact hb
          · exact hct 1 q1 q2
          · exact hct 2 q3 q4
          · exact hct 3 q5 q6
        · exact hbad hd
      · exact hbad hd
/-- the text of a rune above 127 -/
theorem enc_high (r : Int) (h0 : 128 ≤ r) (hv : Utf8.valid r = true) : ∃ (m : Str) (b : UInt8), encS r = m ++ [b] ∧ 128 ≤ b.toNat ∧ 1 ≤ m.length ∧ m.length ≤ 3 := by
  have hb : ∀ n : Nat, 128 ≤ (UInt8.ofNat (0x80 + n % 64)).toNat := fun n => by
    simp only [UInt8.toNat_ofNat']; omega
  unfold encS
  rw [if_neg (by omega)]
  unfold Utf8.encode
  simp only [hv, if_true]
  rw [if_neg (by omega)]
  split
  · exact ⟨[_], _, rfl, hb _, by simp, by simp⟩
  · split
    · exact ⟨[_, _], _, rfl, hb _, by simp, by simp⟩
    · exact ⟨[_, _, _], _, rfl, hb _, by simp, by simp⟩
end Go.Proofs.YtjlbpkokdlggiaaDoor
