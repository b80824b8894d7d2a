/- strings.Builder: WriteString, WriteByte at a builder of the caller's own. (Numbers of seat r2.D.) -/
import Derived.Test.YtjlbpkokdlggiaaGreatDoorBld2
namespace Go.Proofs.YtjlbpkokdlggiaaGreatDoor
open Go.Ab Go.RowKit
set_option linter.unusedSimpArgs false
set_option maxRecDepth 100000
/-- what a write leaves -/
def WPost (nx : Nat) (ob : List (Nat × Option Ob)) (id bid : Nat) (s : Str) (nx' : Nat) (ob' : List (Nat × Option Ob)) : Prop := ∃ k, nx ≤ k ∧ k < nx' ∧ lookO ob' k = some (bufO s) ∧ lookO ob' id = some (bldO (.ptr id 2 0 0) (.own k)) ∧ ∀ j, j ≠ id → j ≠ bid → j < nx → lookO ob' j = lookO ob j
set_option maxHeartbeats 8000000 in
theorem wstr_ok {nx : Nat} {ob : List (Nat × Option Ob)} (id bid : Nat) (c0 : V) (s t : Str) (hob : lookO ob id = some (bldO c0 (.own bid))) (hbb : lookO ob bid = some (bufO s)) (hc : c0 = .nilp ∨ c0 = .ptr id 2 0 0) (hi : id < nx) (hb : bid < nx) (hne : id ≠ bid) (hl : s.length + t.length ≤ 1000000) :
    InlC Tryz.prog 22 [.ptr id 2 0 0, .str t] nx ob fun r nx' ob' => r = .tup [.int .i64 t.length, .poi] ∧ WPost nx ob id bid (s ++ t) nx' ob' := by
  have hbl : (bytesX s).length = s.length := by simp [bytesX]
  have hm : s.length + t.length ≤ maxLen := by simp only [maxLen]; omega
  have hap : bytesX s ++ bytesX t = bytesX (s ++ t) := by simp [bytesX]
  have n1 : ¬ bid = id := fun e => hne e.symm
  have n2 : ¬ id = nx := by omega
  have n3 : ¬ bid = nx := by omega
  have n4 : ¬ nx = id := by omega
  have n5 : ¬ nx = bid := by omega
  refine InlC.of Tryz.func22 rfl (by kernel_rfl) rfl ?_
  simp only [Tryz.ntmps22, St.startI, argT]
  repeat (first | (with_reducible first | refine awp_seqK fun K hK => ?_ | refine awp_block ?_) | ((with_reducible first | refine awp_region (by kernel_rfl) ?_ | refine gcall_tt ?_ | refine gcall_ff ?_ | refine gcall_tf ?_ | refine gcall_ft ?_ | refine awp_skip ?_ | refine awp_exit ?_); simp) | ((repeat ((fail_if_success ((with_reducible refine hK _ ?_))); clear hK)); (with_reducible refine hK _ ?_); clear hK) | refine And.intro (by first | omega | assumption | grind) ?_)
  refine .inr ((cc_ok id c0 (.own bid) hob hc).mono fun r nx' ob' hp => ?_)
  obtain ⟨rfl, rfl, rfl⟩ := hp
  repeat (first | (with_reducible first | refine awp_seqK fun K hK => ?_ | refine awp_block ?_) | ((with_reducible first | refine awp_region (by kernel_rfl) ?_ | refine gcall_tt ?_ | refine gcall_ff ?_ | refine gcall_tf ?_ | refine gcall_ft ?_ | refine awp_skip ?_ | refine awp_exit ?_); simp [hne, n1, n2, n3, n4, n5, hob, hbb, hbl, hap]) | ((repeat ((fail_if_success ((with_reducible refine hK _ ?_))); clear hK)); (with_reducible refine hK _ ?_); clear hK) | refine And.intro (by first | omega | assumption | grind) ?_)
  refine awp_ret ?_
  simp
  exact ⟨_, Nat.le_refl _, Nat.lt_succ_self _, by simp [lookO, n4], by simp [lookO], fun j h1 h2 h3 => by
    have h4 : ¬ j = nx' := by omega
    simp [lookO, h1, h2, h4]⟩
set_option maxHeartbeats 8000000 in
theorem wbyte_ok {nx : Nat} {ob : List (Nat × Option Ob)} (id bid : Nat) (c0 : V) (s : Str) (c : UInt8) (hob : lookO ob id = some (bldO c0 (.own bid))) (hbb : lookO ob bid = some (bufO s)) (hc : c0 = .nilp ∨ c0 = .ptr id 2 0 0) (hi : id < nx) (hb : bid < nx) (hne : id ≠ bid) (hl : s.length ≤ 1000000) :
    InlC Tryz.prog 26 [.ptr id 2 0 0, .int .u8 c.toNat] nx ob fun r nx' ob' => r = .poi ∧ WPost nx ob id bid (s ++ [c]) nx' ob' := by
  have hbl : (bytesX s).length = s.length := by simp [bytesX]
  have hm : s.length + 1 ≤ maxLen := by simp only [maxLen]; omega
  have hap : bytesX s ++ [[V.int .u8 (c.toNat : Int)]] = bytesX (s ++ [c]) := by simp [bytesX]
  have n1 : ¬ bid = id := fun e => hne e.symm
  have n2 : ¬ id = nx := by omega
  have n3 : ¬ bid = nx := by omega
  have n4 : ¬ nx = id := by omega
  have n5 : ¬ nx = bid := by omega
  have n6 : ¬ id = nx + 1 := by omega
  have n7 : ¬ bid = nx + 1 := by omega
  have n8 : ¬ nx + 1 = id := by omega
  refine InlC.of Tryz.func26 rfl (by kernel_rfl) rfl ?_
  simp only [Tryz.ntmps26, St.startI, argT]
  repeat (first | (with_reducible first | refine awp_seqK fun K hK => ?_ | refine awp_block ?_) | ((with_reducible first | refine awp_region (by kernel_rfl) ?_ | refine gcall_tt ?_ | refine gcall_ff ?_ | refine gcall_tf ?_ | refine gcall_ft ?_ | refine awp_skip ?_ | refine awp_exit ?_); simp) | ((repeat ((fail_if_success ((with_reducible refine hK _ ?_))); clear hK)); (with_reducible refine hK _ ?_); clear hK) | refine And.intro (by first | omega | assumption | grind) ?_)
  refine .inr ((cc_ok id c0 (.own bid) hob hc).mono fun r nx' ob' hp => ?_)
  obtain ⟨rfl, rfl, rfl⟩ := hp
  repeat (first | (with_reducible first | refine awp_seqK fun K hK => ?_ | refine awp_block ?_) | ((with_reducible first | refine awp_region (by kernel_rfl) ?_ | refine gcall_tt ?_ | refine gcall_ff ?_ | refine gcall_tf ?_ | refine gcall_ft ?_ | refine awp_skip ?_ | refine awp_exit ?_); simp [hne, n1, n2, n3, n4, n5, n6, n7, n8, hob, hbb, hbl, hap]) | ((repeat ((fail_if_success ((with_reducible refine hK _ ?_))); clear hK)); (with_reducible refine hK _ ?_); clear hK) | refine And.intro (by first | omega | assumption | grind) ?_)
  refine awp_ret ?_
  simp
  exact ⟨nx' + 1, by omega, by omega, by simp [lookO, n8], by simp [lookO], fun j h1 h2 h3 => by
    have h4 : ¬ j = nx' + 1 := by omega
    have h5 : ¬ j = nx' := by omega
    simp [lookO, h1, h2, h4, h5]⟩
/-- what strings.Repeat leans on -/
theorem bldX : Builder.Extra Tryz.prog repLays_ren := { sizeBuilder := by kernel_rfl, liesBuilder := by kernel_rfl, t5 := Tryz.underlying5, a5 := Tryz.isAgg5, z5 := Tryz.sizeOf5, v5 := Tryz.zeroValue5, infoByte := by kernel_rfl, cellsByte := by kernel_rfl, sizeByte := by kernel_rfl, neB5 := by decide }
theorem rep_list (n : Nat) : Lib.repeatL ([48] : Str) n = List.replicate n 48 := by
  induction n with
  | zero => rfl
  | succ n ih => simp [Lib.repeatL, List.replicate_succ, ih]
theorem rep_ok (n : Nat) (hn : n ≤ 1000) : Meets Tryz.prog 25 [.str [48], .int .i64 n] (.str (List.replicate n 48)) := by
  refine ⟨by kernel_rfl, fun w Xa vals M hXa hs hrr => ?_⟩
  obtain rfl := vals2 hs (R_str (hrr 0 _ rfl)) (R_int (hrr 1 _ rfl))
  have h := Any.strings_Repeat repLays bldX ⟨[48].toArray⟩ n w (by omega) (by simp [ByteArray.size]; omega)
  refine h.mono ?_
  rintro e w' ⟨rfl, hb⟩
  have he : Lib.repeatL (⟨[48].toArray⟩ : ByteArray).data.toList n = List.replicate n 48 := rep_list n
  rw [he]
  refine ⟨_, rfl, hb, fun M n' hM => ⟨.str _ _, fun id o ho => ?_, fun id id' o o' g ho => ?_⟩⟩
  · simp [V.fcells, V.cells, obsL, lookO] at ho
  · simp [V.fcells, V.cells, obsL, lookO] at ho
end Go.Proofs.YtjlbpkokdlggiaaGreatDoor
