/- strings.Builder: WriteString, WriteByte at a builder of the caller's own. (Numbers of seat r2.D.) -/
import Derived.Test.YtpifpdjefbehmaaGreatBld2
namespace Go.Proofs.YtpifpdjefbehmaaGreat
open Go.Ab Go.RowKit
set_option linter.unusedSimpArgs false
set_option maxRecDepth 100000
/-- what a write leaves -/
def WPost (nx : Nat) (ob : List (Nat × Option Ob)) (id bid : Nat) (s : Str) (nx' : Nat) (ob' : List (Nat × Option Ob)) : Prop := ∃ k, nx ≤ k ∧ k < nx' ∧ lookO ob' k = some (bufO s) ∧ lookO ob' id = some (bldO (.ptr id 2 0 0) (.own k)) ∧ ∀ j, j ≠ id → j ≠ bid → j < nx → lookO ob' j = lookO ob j
set_option maxHeartbeats 8000000 in
theorem wstr_ok {nx : Nat} {ob : List (Nat × Option Ob)} (id bid : Nat) (c0 : V) (s t : Str) (hob : lookO ob id = some (bldO c0 (.own bid))) (hbb : lookO ob bid = some (bufO s)) (hc : c0 = .nilp ∨ c0 = .ptr id 2 0 0) (hi : id < nx) (hb : bid < nx) (hne : id ≠ bid) (hl : s.length + t.length ≤ 1000000) :
    InlC Tryz.prog 244 [.ptr id 2 0 0, .str t] nx ob fun r nx' ob' => r = .tup [.int .i64 t.length, .poi] ∧ WPost nx ob id bid (s ++ t) nx' ob' := by
  have hbl : (bytesX s).length = s.length := by simp [bytesX]
  have hm : s.length + t.length ≤ maxLen := by simp only [maxLen]; omega
  have hap : bytesX s ++ bytesX t = bytesX (s ++ t) := by simp [bytesX]
  have n1 : ¬ bid = id := fun e => hne e.symm
  have n2 : ¬ id = nx := by omega
  have n3 : ¬ bid = nx := by omega
  have n4 : ¬ nx = id := by omega
  have n5 : ¬ nx = bid := by omega
  refine InlC.of Tryz.func244 rfl (by kernel_rfl) rfl ?_
  simp only [Tryz.ntmps244, St.startI, argT]
  refine au ?_
  repeat intro K hK
  refine wr ?_
  first | refine .inr ((cc_ok id c0 (.own bid) hob hc).mono fun r nx' ob' hp => ?_) | refine (cc_ok id c0 (.own bid) hob hc).mono fun r nx' ob' hp => ?_
  simp only [aftI]
  obtain ⟨rfl, rfl, rfl⟩ := hp
  simp [hne, n1, n2, n3, n4, n5, hob, hbb, hbl, hap]
  refine au10 @hne @n1 @n2 @n3 @n4 @n5 @hob @hbb @hbl @hap ?_
  repeat intro K hK
  refine wr ?_
  refine awp_ret ?_
  simp
  exact ⟨_, Nat.le_refl _, Nat.lt_succ_self _, by simp [lookO, n4], by simp [lookO], fun j h1 h2 h3 => by
    have h4 : ¬ j = nx' := by omega
    simp [lookO, h1, h2, h4]⟩
set_option maxHeartbeats 8000000 in
/-- the first write -/
theorem wstr0_ok {nx : Nat} {ob : List (Nat × Option Ob)} (id : Nat) (t : Str) (hob : lookO ob id = some (bldO .nilp (.sl 0 true []))) (hi : id < nx) (hl : t.length ≤ 1000000) :
    InlC Tryz.prog 244 [.ptr id 2 0 0, .str t] nx ob fun r nx' ob' => r = .tup [.int .i64 t.length, .poi] ∧ WPost nx ob id nx t nx' ob' := by
  have hbl : (bytesX ([] : Str)).length = 0 := by simp [bytesX]
  have hm : t.length ≤ maxLen := by simp only [maxLen]; omega
  have n2 : ¬ id = nx := by omega
  have n3 : ¬ nx = id := by omega
  have n4 : ¬ id = nx + 1 := by omega
  have n5 : ¬ nx + 1 = id := by omega
  refine InlC.of Tryz.func244 rfl (by kernel_rfl) rfl ?_
  simp only [Tryz.ntmps244, St.startI, argT]
  refine awp_nilCell id 1 5 1 (by decide) hob rfl rfl rfl ?_
  refine au2 @n2 @n3 ?_
  repeat intro K hK
  refine wr ?_
  first | refine .inr ((cc_ok id .nilp (.own nx) (by simp [lookO]) (.inl rfl)).mono fun r nx' ob' hp => ?_) | refine (cc_ok id .nilp (.own nx) (by simp [lookO]) (.inl rfl)).mono fun r nx' ob' hp => ?_
  simp only [aftI]
  obtain ⟨rfl, rfl, rfl⟩ := hp
  simp [n2, n3, n4, n5, hob]
  refine au6 @n2 @n3 @n4 @n5 @hob @hm ?_
  repeat intro K hK
  refine wr ?_
  refine awp_ret ?_
  simp
  exact ⟨_, Nat.le_succ _, Nat.lt_succ_self _, by simp [lookO, n4, n5], by simp [lookO], fun j h1 h2 h3 => by
    have h4 : ¬ j = nx + 1 := by omega
    simp [lookO, h1, h2, h4]⟩
theorem blen_ok {nx : Nat} {ob : List (Nat × Option Ob)} (id bid : Nat) (c0 : V) (s : Str) (hob : lookO ob id = some (bldO c0 (.own bid))) (hbb : lookO ob bid = some (bufO s)) :
    InlC Tryz.prog 246 [.ptr id 2 0 0] nx ob fun r nx' ob' => r = .int .i64 s.length ∧ nx' = nx ∧ ob' = ob := by
  have hbl : (bytesX s).length = s.length := by simp [bytesX]
  refine InlC.of Tryz.func246 rfl (by kernel_rfl) rfl ?_
  simp only [Tryz.ntmps246, St.startI, argT]
  refine au3 @hob @hbb @hbl ?_
  repeat intro K hK
  refine wr ?_
  refine awp_ret ?_
  simp
end Go.Proofs.YtpifpdjefbehmaaGreat
